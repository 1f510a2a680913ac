-- Printed out of the translation, hand-written contracts beside it; checked by the kernel alone.
import Derived.Test.YtcpemdedmepfeaaPFnExactSumPoolx0
import Derived.Test.YtcpemdedmepfeaaPFnExactSumPoolx4
namespace Go.Proofs.Ytcpemdedmepfeaa.PFnExactSumPool
open Go.RowKit Go.Proofs.YtcpemdedmepfeaaW.PrintWords Go.Proofs.YtcpemdedmepfeaaW.PrintLast Go.Proofs.YtcpemdedmepfeaaW.PrintMore
attribute [local go_sem] max2_int min2_int max_two min_two max_three min_three max_four min_four   -- for this text's walks alone
set_option linter.unusedVariables false
set_option linter.unusedSimpArgs false

/-! ### impl_pool: function 66 -/
mutual
def impl_pool.j0 : Nat → Int → Int → Int → Bool → List Int → List Int → Option (List Int × List Int)
 | 0, _, _, _, _, _, _ => none
 | k + 1, x1, x2, x9, x59, x216000, x216001 => if x59 = true then (some (([] : List Int), ([] : List Int))) else (if 0 ≤ (wrap64 (x9 - 2)) then (if (wrap64 (x9 - 2)) < (x216000.length : Int) then (if 0 ≤ (wrap64 (x9 - 1)) then (if (wrap64 (x9 - 1)) < (x216000.length : Int) then (if x2 = 0 then (none) else (if (wrap64 (x9 - 2)) ≤ (x216000.length : Int) then ((slices_Clone_int_int.f (x216000.take ((wrap64 (x9 - 2)) : Int).toNat)).bind fun t223 => ((some (([wrap64 ((wrap64 (Int.tdiv (wrap64 ((rd x216000 (wrap64 (x9 - 2))) - x1)) x2)) + 1), wrap64 ((wrap64 (Int.tdiv (wrap64 ((rd x216000 (wrap64 (x9 - 1))) - x1)) x2)) + 1)] : List Int) : List Int)).bind fun y226 => (if t223.length + y226.length < 17592186044416 then ((impl_product.f k (x216000.take ((wrap64 (x9 - 2)) : Int).toNat)).bind fun t234 => (impl_pool.l0 k x1 x2 (rd x216000 (wrap64 (x9 - 2))) (rd x216000 (wrap64 (x9 - 1))) (wrap64 ((wrap64 (Int.tdiv (wrap64 ((rd x216000 (wrap64 (x9 - 2))) - x1)) x2)) + 1)) (wrap64 ((wrap64 (Int.tdiv (wrap64 ((rd x216000 (wrap64 (x9 - 1))) - x1)) x2)) + 1)) t234 0 x216000 x216001 (t223 ++ y226) ([] : List Int))) else (none)))) else (none))) else (none)) else (none)) else (none)) else (none))
def impl_pool.l0 : Nat → Int → Int → Int → Int → Int → Int → Int → Int → List Int → List Int → List Int → List Int → Option (List Int × List Int)
 | 0, _, _, _, _, _, _, _, _, _, _, _, _ => none
 | k + 1, x1, x2, x10, x11, x12, x13, x101, x102, x216000, x216001, x233000, x233001 => if x102 < x101 then (impl_pool.l1 k x1 x2 x10 x11 x12 x13 x102 x101 x102 x12 0 x216000 x216001 x233000 x233001) else (some (x233000, x233001))
def impl_pool.l1 : Nat → Int → Int → Int → Int → Int → Int → Int → Int → Int → Int → Int → List Int → List Int → List Int → List Int → Option (List Int × List Int)
 | 0, _, _, _, _, _, _, _, _, _, _, _, _, _, _, _ => none
 | k + 1, x1, x2, x10, x11, x12, x13, x15, x101, x102, x105, x106, x216000, x216001, x233000, x233001 => if x106 < x105 then (impl_pool.l2 k x1 x2 x10 x11 x12 x13 x15 x106 x101 x102 x105 x106 x13 0 x216000 x216001 x233000 x233001) else (impl_pool.l0 k x1 x2 x10 x11 x12 x13 x101 (wrap64 (x102 + 1)) x216000 x216001 x233000 x233001)
def impl_pool.l2 : Nat → Int → Int → Int → Int → Int → Int → Int → Int → Int → Int → Int → Int → Int → Int → List Int → List Int → List Int → List Int → Option (List Int × List Int)
 | 0, _, _, _, _, _, _, _, _, _, _, _, _, _, _, _, _, _, _ => none
 | k + 1, x1, x2, x10, x11, x12, x13, x15, x16, x101, x102, x105, x106, x109, x110, x216000, x216001, x233000, x233001 => if x110 < x109 then (if 0 ≤ (wrap64 ((wrap64 ((wrap64 ((wrap64 (x15 * x10)) * x11)) + (wrap64 ((wrap64 (x16 * x2)) * x11)))) + (wrap64 (x110 * x2)))) then (if (wrap64 ((wrap64 ((wrap64 ((wrap64 (x15 * x10)) * x11)) + (wrap64 ((wrap64 (x16 * x2)) * x11)))) + (wrap64 (x110 * x2)))) < (x216001.length : Int) then (impl_pool.l3 k x1 x2 x10 x11 x12 x13 x15 x16 (wrap64 ((wrap64 ((wrap64 ((wrap64 (x15 * x10)) * x11)) + (wrap64 ((wrap64 (x16 * x2)) * x11)))) + (wrap64 (x110 * x2)))) (rd x216001 (wrap64 ((wrap64 ((wrap64 ((wrap64 (x15 * x10)) * x11)) + (wrap64 ((wrap64 (x16 * x2)) * x11)))) + (wrap64 (x110 * x2))))) x101 x102 x105 x106 x109 x110 x1 0 x216000 x216001 x233000 x233001) else (none)) else (none)) else (impl_pool.l1 k x1 x2 x10 x11 x12 x13 x15 x101 x102 x105 (wrap64 (x106 + 1)) x216000 x216001 x233000 x233001)
def impl_pool.l3 : Nat → Int → Int → Int → Int → Int → Int → Int → Int → Int → Int → Int → Int → Int → Int → Int → Int → Int → Int → List Int → List Int → List Int → List Int → Option (List Int × List Int)
 | 0, _, _, _, _, _, _, _, _, _, _, _, _, _, _, _, _, _, _, _, _, _, _ => none
 | k + 1, x1, x2, x10, x11, x12, x13, x15, x16, x18, x19, x101, x102, x105, x106, x109, x110, x133, x134, x216000, x216001, x233000, x233001 => if x134 < x133 then (impl_pool.l4 k x1 x2 x10 x11 x12 x13 x15 x16 x18 x19 x134 x101 x102 x105 x106 x109 x110 x133 x134 x1 0 x216000 x216001 x233000 x233001) else (if x233001.length < 17592186044416 then (impl_pool.l2 k x1 x2 x10 x11 x12 x13 x15 x16 x101 x102 x105 x106 x109 (wrap64 (x110 + 1)) x216000 x216001 x233000 (x233001 ++ [x19])) else (none))
def impl_pool.l4 : Nat → Int → Int → Int → Int → Int → Int → Int → Int → Int → Int → Int → Int → Int → Int → Int → Int → Int → Int → Int → Int → Int → List Int → List Int → List Int → List Int → Option (List Int × List Int)
 | 0, _, _, _, _, _, _, _, _, _, _, _, _, _, _, _, _, _, _, _, _, _, _, _, _, _ => none
 | k + 1, x1, x2, x10, x11, x12, x13, x15, x16, x18, x19, x20, x101, x102, x105, x106, x109, x110, x133, x134, x137, x138, x216000, x216001, x233000, x233001 => if x138 < x137 then (if (wrap64 (x20 + x138)) > 0 then (if 0 ≤ (wrap64 ((wrap64 (x18 + (wrap64 (x20 * x11)))) + x138)) then (if (wrap64 ((wrap64 (x18 + (wrap64 (x20 * x11)))) + x138)) < (x216001.length : Int) then ((impl_Plus.f x19 (rd x216001 (wrap64 ((wrap64 (x18 + (wrap64 (x20 * x11)))) + x138)))).bind fun t240 => (impl_pool.l4 k x1 x2 x10 x11 x12 x13 x15 x16 x18 t240 x20 x101 x102 x105 x106 x109 x110 x133 x134 x137 (wrap64 (x138 + 1)) x216000 x216001 x233000 x233001)) else (none)) else (none)) else (impl_pool.l4 k x1 x2 x10 x11 x12 x13 x15 x16 x18 x19 x20 x101 x102 x105 x106 x109 x110 x133 x134 x137 (wrap64 (x138 + 1)) x216000 x216001 x233000 x233001)) else (impl_pool.l3 k x1 x2 x10 x11 x12 x13 x15 x16 x18 x19 x101 x102 x105 x106 x109 x110 x133 (wrap64 (x134 + 1)) x216000 x216001 x233000 x233001)
end
def impl_pool.f (k : Nat) (l0_0 : List Int) (l0_1 : List Int) (a1 : Int) (a2 : Int) (a3 : Int) : Option (List Int × List Int) := (impl_TensorOk.f k l0_0 l0_1).bind fun t217 => (if t217 = true then (if (l0_0.length : Int) < 2 then (impl_pool.j0 k a1 a2 (l0_0.length : Int) true l0_0 l0_1) else (if a1 < 1 then (impl_pool.j0 k a1 a2 (l0_0.length : Int) true l0_0 l0_1) else (if a2 < 1 then (impl_pool.j0 k a1 a2 (l0_0.length : Int) true l0_0 l0_1) else (if 0 ≤ (wrap64 ((l0_0.length : Int) - 1)) then (if (wrap64 ((l0_0.length : Int) - 1)) < (l0_0.length : Int) then (if a1 > (rd l0_0 (wrap64 ((l0_0.length : Int) - 1))) then (impl_pool.j0 k a1 a2 (l0_0.length : Int) true l0_0 l0_1) else (if 0 ≤ (wrap64 ((l0_0.length : Int) - 2)) then (if (wrap64 ((l0_0.length : Int) - 2)) < (l0_0.length : Int) then (impl_pool.j0 k a1 a2 (l0_0.length : Int) (decide (a1 > (rd l0_0 (wrap64 ((l0_0.length : Int) - 2))))) l0_0 l0_1) else (none)) else (none))) else (none)) else (none))))) else (impl_pool.j0 k a1 a2 (l0_0.length : Int) true l0_0 l0_1))
theorem impl_pool.mono_l : ∀ k, (∀ y0 y1 y2 y3 y4 y5, LeO (impl_pool.j0 k y0 y1 y2 y3 y4 y5) (impl_pool.j0 (k + 1) y0 y1 y2 y3 y4 y5)) ∧ (∀ y0 y1 y2 y3 y4 y5 y6 y7 y8 y9 y10 y11, LeO (impl_pool.l0 k y0 y1 y2 y3 y4 y5 y6 y7 y8 y9 y10 y11) (impl_pool.l0 (k + 1) y0 y1 y2 y3 y4 y5 y6 y7 y8 y9 y10 y11)) ∧ (∀ y0 y1 y2 y3 y4 y5 y6 y7 y8 y9 y10 y11 y12 y13 y14, LeO (impl_pool.l1 k y0 y1 y2 y3 y4 y5 y6 y7 y8 y9 y10 y11 y12 y13 y14) (impl_pool.l1 (k + 1) y0 y1 y2 y3 y4 y5 y6 y7 y8 y9 y10 y11 y12 y13 y14)) ∧ (∀ y0 y1 y2 y3 y4 y5 y6 y7 y8 y9 y10 y11 y12 y13 y14 y15 y16 y17, LeO (impl_pool.l2 k y0 y1 y2 y3 y4 y5 y6 y7 y8 y9 y10 y11 y12 y13 y14 y15 y16 y17) (impl_pool.l2 (k + 1) y0 y1 y2 y3 y4 y5 y6 y7 y8 y9 y10 y11 y12 y13 y14 y15 y16 y17)) ∧ (∀ y0 y1 y2 y3 y4 y5 y6 y7 y8 y9 y10 y11 y12 y13 y14 y15 y16 y17 y18 y19 y20 y21, LeO (impl_pool.l3 k y0 y1 y2 y3 y4 y5 y6 y7 y8 y9 y10 y11 y12 y13 y14 y15 y16 y17 y18 y19 y20 y21) (impl_pool.l3 (k + 1) y0 y1 y2 y3 y4 y5 y6 y7 y8 y9 y10 y11 y12 y13 y14 y15 y16 y17 y18 y19 y20 y21)) ∧ (∀ y0 y1 y2 y3 y4 y5 y6 y7 y8 y9 y10 y11 y12 y13 y14 y15 y16 y17 y18 y19 y20 y21 y22 y23 y24, LeO (impl_pool.l4 k y0 y1 y2 y3 y4 y5 y6 y7 y8 y9 y10 y11 y12 y13 y14 y15 y16 y17 y18 y19 y20 y21 y22 y23 y24) (impl_pool.l4 (k + 1) y0 y1 y2 y3 y4 y5 y6 y7 y8 y9 y10 y11 y12 y13 y14 y15 y16 y17 y18 y19 y20 y21 y22 y23 y24))
 | 0 => ⟨fun _ _ _ _ _ _ r h => by simp [impl_pool.j0] at h, fun _ _ _ _ _ _ _ _ _ _ _ _ r h => by simp [impl_pool.l0] at h, fun _ _ _ _ _ _ _ _ _ _ _ _ _ _ _ r h => by simp [impl_pool.l1] at h, fun _ _ _ _ _ _ _ _ _ _ _ _ _ _ _ _ _ _ r h => by simp [impl_pool.l2] at h, fun _ _ _ _ _ _ _ _ _ _ _ _ _ _ _ _ _ _ _ _ _ _ r h => by simp [impl_pool.l3] at h, fun _ _ _ _ _ _ _ _ _ _ _ _ _ _ _ _ _ _ _ _ _ _ _ _ _ r h => by simp [impl_pool.l4] at h⟩
 | k + 1 => by
  obtain ⟨ih0, ih1, ih2, ih3, ih4, ih5⟩ := impl_pool.mono_l k
  refine ⟨?_, ?_, ?_, ?_, ?_, ?_⟩
  ·intro y0 y1 y2 y3 y4 y5
   unfold impl_pool.j0
   repeat' first
   | (with_reducible exact ih0 _ _ _ _ _ _)
   | (with_reducible exact ih1 _ _ _ _ _ _ _ _ _ _ _ _)
   | (with_reducible exact ih2 _ _ _ _ _ _ _ _ _ _ _ _ _ _ _)
   | (with_reducible exact ih3 _ _ _ _ _ _ _ _ _ _ _ _ _ _ _ _ _ _)
   | (with_reducible exact ih4 _ _ _ _ _ _ _ _ _ _ _ _ _ _ _ _ _ _ _ _ _ _)
   | (with_reducible exact ih5 _ _ _ _ _ _ _ _ _ _ _ _ _ _ _ _ _ _ _ _ _ _ _ _ _)
   | (with_reducible exact impl_TensorOk.mono _ _ _)
   | (with_reducible exact impl_product.mono _ _)
   | (with_reducible exact LeO.refl _)
   | (with_reducible exact LeO.none _)
   | (with_reducible refine LeO.ite ?_ ?_)
   | (with_reducible refine LeO.bind ?_ (fun _ => ?_))
   | exact ih0 _ _ _ _ _ _
   | exact ih1 _ _ _ _ _ _ _ _ _ _ _ _
   | exact ih2 _ _ _ _ _ _ _ _ _ _ _ _ _ _ _
   | exact ih3 _ _ _ _ _ _ _ _ _ _ _ _ _ _ _ _ _ _
   | exact ih4 _ _ _ _ _ _ _ _ _ _ _ _ _ _ _ _ _ _ _ _ _ _
   | exact ih5 _ _ _ _ _ _ _ _ _ _ _ _ _ _ _ _ _ _ _ _ _ _ _ _ _
   | exact impl_TensorOk.mono _ _ _
   | exact impl_product.mono _ _
   | exact LeO.none _
   | refine LeO.ite ?_ ?_
   | refine LeO.bind ?_ (fun _ => ?_)
  ·intro y0 y1 y2 y3 y4 y5 y6 y7 y8 y9 y10 y11
   unfold impl_pool.l0
   repeat' first
   | (with_reducible exact ih0 _ _ _ _ _ _)
   | (with_reducible exact ih1 _ _ _ _ _ _ _ _ _ _ _ _)
   | (with_reducible exact ih2 _ _ _ _ _ _ _ _ _ _ _ _ _ _ _)
   | (with_reducible exact ih3 _ _ _ _ _ _ _ _ _ _ _ _ _ _ _ _ _ _)
   | (with_reducible exact ih4 _ _ _ _ _ _ _ _ _ _ _ _ _ _ _ _ _ _ _ _ _ _)
   | (with_reducible exact ih5 _ _ _ _ _ _ _ _ _ _ _ _ _ _ _ _ _ _ _ _ _ _ _ _ _)
   | (with_reducible exact impl_TensorOk.mono _ _ _)
   | (with_reducible exact impl_product.mono _ _)
   | (with_reducible exact LeO.refl _)
   | (with_reducible exact LeO.none _)
   | (with_reducible refine LeO.ite ?_ ?_)
   | (with_reducible refine LeO.bind ?_ (fun _ => ?_))
   | exact ih0 _ _ _ _ _ _
   | exact ih1 _ _ _ _ _ _ _ _ _ _ _ _
   | exact ih2 _ _ _ _ _ _ _ _ _ _ _ _ _ _ _
   | exact ih3 _ _ _ _ _ _ _ _ _ _ _ _ _ _ _ _ _ _
   | exact ih4 _ _ _ _ _ _ _ _ _ _ _ _ _ _ _ _ _ _ _ _ _ _
   | exact ih5 _ _ _ _ _ _ _ _ _ _ _ _ _ _ _ _ _ _ _ _ _ _ _ _ _
   | exact impl_TensorOk.mono _ _ _
   | exact impl_product.mono _ _
   | exact LeO.none _
   | refine LeO.ite ?_ ?_
   | refine LeO.bind ?_ (fun _ => ?_)
  ·intro y0 y1 y2 y3 y4 y5 y6 y7 y8 y9 y10 y11 y12 y13 y14
   unfold impl_pool.l1
   repeat' first
   | (with_reducible exact ih0 _ _ _ _ _ _)
   | (with_reducible exact ih1 _ _ _ _ _ _ _ _ _ _ _ _)
   | (with_reducible exact ih2 _ _ _ _ _ _ _ _ _ _ _ _ _ _ _)
   | (with_reducible exact ih3 _ _ _ _ _ _ _ _ _ _ _ _ _ _ _ _ _ _)
   | (with_reducible exact ih4 _ _ _ _ _ _ _ _ _ _ _ _ _ _ _ _ _ _ _ _ _ _)
   | (with_reducible exact ih5 _ _ _ _ _ _ _ _ _ _ _ _ _ _ _ _ _ _ _ _ _ _ _ _ _)
   | (with_reducible exact impl_TensorOk.mono _ _ _)
   | (with_reducible exact impl_product.mono _ _)
   | (with_reducible exact LeO.refl _)
   | (with_reducible exact LeO.none _)
   | (with_reducible refine LeO.ite ?_ ?_)
   | (with_reducible refine LeO.bind ?_ (fun _ => ?_))
   | exact ih0 _ _ _ _ _ _
   | exact ih1 _ _ _ _ _ _ _ _ _ _ _ _
   | exact ih2 _ _ _ _ _ _ _ _ _ _ _ _ _ _ _
   | exact ih3 _ _ _ _ _ _ _ _ _ _ _ _ _ _ _ _ _ _
   | exact ih4 _ _ _ _ _ _ _ _ _ _ _ _ _ _ _ _ _ _ _ _ _ _
   | exact ih5 _ _ _ _ _ _ _ _ _ _ _ _ _ _ _ _ _ _ _ _ _ _ _ _ _
   | exact impl_TensorOk.mono _ _ _
   | exact impl_product.mono _ _
   | exact LeO.none _
   | refine LeO.ite ?_ ?_
   | refine LeO.bind ?_ (fun _ => ?_)
  ·intro y0 y1 y2 y3 y4 y5 y6 y7 y8 y9 y10 y11 y12 y13 y14 y15 y16 y17
   unfold impl_pool.l2
   repeat' first
   | (with_reducible exact ih0 _ _ _ _ _ _)
   | (with_reducible exact ih1 _ _ _ _ _ _ _ _ _ _ _ _)
   | (with_reducible exact ih2 _ _ _ _ _ _ _ _ _ _ _ _ _ _ _)
   | (with_reducible exact ih3 _ _ _ _ _ _ _ _ _ _ _ _ _ _ _ _ _ _)
   | (with_reducible exact ih4 _ _ _ _ _ _ _ _ _ _ _ _ _ _ _ _ _ _ _ _ _ _)
   | (with_reducible exact ih5 _ _ _ _ _ _ _ _ _ _ _ _ _ _ _ _ _ _ _ _ _ _ _ _ _)
   | (with_reducible exact impl_TensorOk.mono _ _ _)
   | (with_reducible exact impl_product.mono _ _)
   | (with_reducible exact LeO.refl _)
   | (with_reducible exact LeO.none _)
   | (with_reducible refine LeO.ite ?_ ?_)
   | (with_reducible refine LeO.bind ?_ (fun _ => ?_))
   | exact ih0 _ _ _ _ _ _
   | exact ih1 _ _ _ _ _ _ _ _ _ _ _ _
   | exact ih2 _ _ _ _ _ _ _ _ _ _ _ _ _ _ _
   | exact ih3 _ _ _ _ _ _ _ _ _ _ _ _ _ _ _ _ _ _
   | exact ih4 _ _ _ _ _ _ _ _ _ _ _ _ _ _ _ _ _ _ _ _ _ _
   | exact ih5 _ _ _ _ _ _ _ _ _ _ _ _ _ _ _ _ _ _ _ _ _ _ _ _ _
   | exact impl_TensorOk.mono _ _ _
   | exact impl_product.mono _ _
   | exact LeO.none _
   | refine LeO.ite ?_ ?_
   | refine LeO.bind ?_ (fun _ => ?_)
  ·intro y0 y1 y2 y3 y4 y5 y6 y7 y8 y9 y10 y11 y12 y13 y14 y15 y16 y17 y18 y19 y20 y21
   unfold impl_pool.l3
   repeat' first
   | (with_reducible exact ih0 _ _ _ _ _ _)
   | (with_reducible exact ih1 _ _ _ _ _ _ _ _ _ _ _ _)
   | (with_reducible exact ih2 _ _ _ _ _ _ _ _ _ _ _ _ _ _ _)
   | (with_reducible exact ih3 _ _ _ _ _ _ _ _ _ _ _ _ _ _ _ _ _ _)
   | (with_reducible exact ih4 _ _ _ _ _ _ _ _ _ _ _ _ _ _ _ _ _ _ _ _ _ _)
   | (with_reducible exact ih5 _ _ _ _ _ _ _ _ _ _ _ _ _ _ _ _ _ _ _ _ _ _ _ _ _)
   | (with_reducible exact impl_TensorOk.mono _ _ _)
   | (with_reducible exact impl_product.mono _ _)
   | (with_reducible exact LeO.refl _)
   | (with_reducible exact LeO.none _)
   | (with_reducible refine LeO.ite ?_ ?_)
   | (with_reducible refine LeO.bind ?_ (fun _ => ?_))
   | exact ih0 _ _ _ _ _ _
   | exact ih1 _ _ _ _ _ _ _ _ _ _ _ _
   | exact ih2 _ _ _ _ _ _ _ _ _ _ _ _ _ _ _
   | exact ih3 _ _ _ _ _ _ _ _ _ _ _ _ _ _ _ _ _ _
   | exact ih4 _ _ _ _ _ _ _ _ _ _ _ _ _ _ _ _ _ _ _ _ _ _
   | exact ih5 _ _ _ _ _ _ _ _ _ _ _ _ _ _ _ _ _ _ _ _ _ _ _ _ _
   | exact impl_TensorOk.mono _ _ _
   | exact impl_product.mono _ _
   | exact LeO.none _
   | refine LeO.ite ?_ ?_
   | refine LeO.bind ?_ (fun _ => ?_)
  ·intro y0 y1 y2 y3 y4 y5 y6 y7 y8 y9 y10 y11 y12 y13 y14 y15 y16 y17 y18 y19 y20 y21 y22 y23 y24
   unfold impl_pool.l4
   repeat' first
   | (with_reducible exact ih0 _ _ _ _ _ _)
   | (with_reducible exact ih1 _ _ _ _ _ _ _ _ _ _ _ _)
   | (with_reducible exact ih2 _ _ _ _ _ _ _ _ _ _ _ _ _ _ _)
   | (with_reducible exact ih3 _ _ _ _ _ _ _ _ _ _ _ _ _ _ _ _ _ _)
   | (with_reducible exact ih4 _ _ _ _ _ _ _ _ _ _ _ _ _ _ _ _ _ _ _ _ _ _)
   | (with_reducible exact ih5 _ _ _ _ _ _ _ _ _ _ _ _ _ _ _ _ _ _ _ _ _ _ _ _ _)
   | (with_reducible exact impl_TensorOk.mono _ _ _)
   | (with_reducible exact impl_product.mono _ _)
   | (with_reducible exact LeO.refl _)
   | (with_reducible exact LeO.none _)
   | (with_reducible refine LeO.ite ?_ ?_)
   | (with_reducible refine LeO.bind ?_ (fun _ => ?_))
   | exact ih0 _ _ _ _ _ _
   | exact ih1 _ _ _ _ _ _ _ _ _ _ _ _
   | exact ih2 _ _ _ _ _ _ _ _ _ _ _ _ _ _ _
   | exact ih3 _ _ _ _ _ _ _ _ _ _ _ _ _ _ _ _ _ _
   | exact ih4 _ _ _ _ _ _ _ _ _ _ _ _ _ _ _ _ _ _ _ _ _ _
   | exact ih5 _ _ _ _ _ _ _ _ _ _ _ _ _ _ _ _ _ _ _ _ _ _ _ _ _
   | exact impl_TensorOk.mono _ _ _
   | exact impl_product.mono _ _
   | exact LeO.none _
   | refine LeO.ite ?_ ?_
   | refine LeO.bind ?_ (fun _ => ?_)
theorem impl_pool.mono : ∀ a0 a1 a2 a3 a4 k, LeO (impl_pool.f k a0 a1 a2 a3 a4) (impl_pool.f (k + 1) a0 a1 a2 a3 a4) := by
 intro a0 a1 a2 a3 a4 k
 obtain ⟨ih0, ih1, ih2, ih3, ih4, ih5⟩ := impl_pool.mono_l k
 unfold impl_pool.f
 repeat' first
   | (with_reducible exact ih0 _ _ _ _ _ _)
   | (with_reducible exact ih1 _ _ _ _ _ _ _ _ _ _ _ _)
   | (with_reducible exact ih2 _ _ _ _ _ _ _ _ _ _ _ _ _ _ _)
   | (with_reducible exact ih3 _ _ _ _ _ _ _ _ _ _ _ _ _ _ _ _ _ _)
   | (with_reducible exact ih4 _ _ _ _ _ _ _ _ _ _ _ _ _ _ _ _ _ _ _ _ _ _)
   | (with_reducible exact ih5 _ _ _ _ _ _ _ _ _ _ _ _ _ _ _ _ _ _ _ _ _ _ _ _ _)
   | (with_reducible exact impl_TensorOk.mono _ _ _)
   | (with_reducible exact impl_product.mono _ _)
   | (with_reducible exact LeO.refl _)
   | (with_reducible exact LeO.none _)
   | (with_reducible refine LeO.ite ?_ ?_)
   | (with_reducible refine LeO.bind ?_ (fun _ => ?_))
   | exact ih0 _ _ _ _ _ _
   | exact ih1 _ _ _ _ _ _ _ _ _ _ _ _
   | exact ih2 _ _ _ _ _ _ _ _ _ _ _ _ _ _ _
   | exact ih3 _ _ _ _ _ _ _ _ _ _ _ _ _ _ _ _ _ _
   | exact ih4 _ _ _ _ _ _ _ _ _ _ _ _ _ _ _ _ _ _ _ _ _ _
   | exact ih5 _ _ _ _ _ _ _ _ _ _ _ _ _ _ _ _ _ _ _ _ _ _ _ _ _
   | exact impl_TensorOk.mono _ _ _
   | exact impl_product.mono _ _
   | exact LeO.none _
   | refine LeO.ite ?_ ?_
   | refine LeO.bind ?_ (fun _ => ?_)
set_option maxHeartbeats 8000000 in
set_option maxRecDepth 100000 in
theorem impl_pool.calls (k : Nat) (A0_0 : Option Addr) (c0_0 : Nat) (l0_0 : List Int) (A0_1 : Option Addr) (c0_1 : Nat) (l0_1 : List Int) (a1 : Int) (a2 : Int) (a3 : Int) (r1 : List Int) (r2 : List Int) (w : World) (hr0_0 : Kd.C (Kd.int .i64) w A0_0 l0_0.length l0_0) (hc0_0 : l0_0.length ≤ c0_0) (hr0_1 : Kd.C (Kd.int .i64) w A0_1 l0_1.length l0_1) (hc0_1 : l0_1.length ≤ c0_1) (h : impl_pool.f k l0_0 l0_1 a1 a2 a3 = some (r1, r2)) :
  Calls Try.prog 66 #[.agg #[.slice A0_0 l0_0.length c0_0, .slice A0_1 l0_1.length c0_1], .int .i64 a1, .int .i64 a2, .func (.func 67) #[] #[]] w fun e w' => ∃ v0_ v1_ : Value, e = .returned (.agg #[v0_, v1_]) ∧ Kd.R (Kd.int .i64) 3 w' w.heap.size (fun k_ => some k_ ≠ (v1_ : Value).ownBlock) v0_ r1 ∧ Kd.R (Kd.int .i64) 3 w' w.heap.size (fun k_ => some k_ ≠ (v0_ : Value).ownBlock) v1_ r2 ∧ Below w.heap.size w w' := by
 have hu39 := Try.underlying39
 have HR0_0 := Aside0.mk hr0_0
 have HC0_0 := Aside0.mk hc0_0
 clear hr0_0 hc0_0
 have HR0_1 := Aside0.mk hr0_1
 have HC0_1 := Aside0.mk hc0_1
 clear hr0_1 hc0_1
 have HB := Aside0.mk (Below.refl w.heap.size w)
 have H : ((impl_TensorOk.f k l0_0 l0_1).bind fun t217 => (if t217 = true then (if (l0_0.length : Int) < 2 then (impl_pool.j0 k a1 a2 (l0_0.length : Int) true l0_0 l0_1) else (if a1 < 1 then (impl_pool.j0 k a1 a2 (l0_0.length : Int) true l0_0 l0_1) else (if a2 < 1 then (impl_pool.j0 k a1 a2 (l0_0.length : Int) true l0_0 l0_1) else (if 0 ≤ (wrap64 ((l0_0.length : Int) - 1)) then (if (wrap64 ((l0_0.length : Int) - 1)) < (l0_0.length : Int) then (if a1 > (rd l0_0 (wrap64 ((l0_0.length : Int) - 1))) then (impl_pool.j0 k a1 a2 (l0_0.length : Int) true l0_0 l0_1) else (if 0 ≤ (wrap64 ((l0_0.length : Int) - 2)) then (if (wrap64 ((l0_0.length : Int) - 2)) < (l0_0.length : Int) then (impl_pool.j0 k a1 a2 (l0_0.length : Int) (decide (a1 > (rd l0_0 (wrap64 ((l0_0.length : Int) - 2))))) l0_0 l0_1) else (none)) else (none))) else (none)) else (none))))) else (impl_pool.j0 k a1 a2 (l0_0.length : Int) true l0_0 l0_1))) = some (r1, r2) := h
 clear h
 have HC5 := Aside0.mk H
 clear H
 go_enter Try.func66, Try.ntmps66
 go_upto_region 2 with (first | ((with_reducible refine gate_dst (N := 4) rfl ?_); refine box_event ?hg (N := 4) ?hd (cs := #[.slice A0_0 l0_0.length c0_0, .slice A0_1 l0_1.length c0_1]) (t := 39) ?hr ?_; (case hd => rfl); (case hg => rfl); (case hr => first | (go_simp; done) | (go_simp; rfl)); intro gb215 hg w6 hbox hb; have n0_ := Aside0.mk (below_step (by repeat (first | (with_reducible first | exact HB.out | apply below_alloc | apply pw_below_drewN | apply below_drew1) | exact HB.out)) hb); have n1_ := Aside0.mk (hbox); have n2_ := Aside0.mk ((by rw [hg]; exact (below_size (by repeat (first | (with_reducible first | exact HB.out | apply below_alloc | apply pw_below_drewN | apply below_drew1) | exact HB.out))) : w.heap.size ≤ gb215)); have n3_ := Aside0.mk ((by rw [hg]; exact (below_size (by repeat (first | (with_reducible first | exact HB.out | apply below_alloc | apply pw_below_drewN | apply below_drew1) | exact HB.out))) : w.heap.size ≤ gb215)); clear HB; have HB := n0_; have BK215 := n1_; have GW215 := n2_; have GE215 := n3_; clear n0_ n1_ n2_ n3_; clear hb hbox hg) | ((with_reducible refine gate_dst (N := 8) rfl ?_); refine box_event ?hg (N := 8) ?hd (cs := #[.slice none 0 0, .slice none 0 0]) (t := 39) ?hr ?_; (case hd => rfl); (case hg => rfl); (case hr => first | (go_simp; done) | (go_simp; rfl)); intro gb216 hg w7 hbox hb; have n0_ := Aside0.mk (blk_below (g := gb215) (o := .cells #[.slice A0_0 l0_0.length c0_0, .slice A0_1 l0_1.length c0_1] 39 (0, 0)) (by (with_reducible repeat (first | refine blk_drewN ?_ _ | refine blk_drew ?_ | refine blk_alloc ?_ _)); exact BK215.out) hb); have n1_ := Aside0.mk (below_step (by repeat (first | (with_reducible first | exact HB.out | apply below_alloc | apply pw_below_drewN | apply below_drew1 | refine below_set ?_ GE215.out) | exact HB.out)) hb); have n2_ := Aside0.mk (hbox); have n3_ := Aside0.mk ((by rw [hg]; exact (below_size (by repeat (first | (with_reducible first | exact HB.out | apply below_alloc | apply pw_below_drewN | apply below_drew1 | refine below_set ?_ GE215.out) | exact HB.out))) : w.heap.size ≤ gb216)); have n4_ := Aside0.mk ((by rw [hg]; exact (below_size (by repeat (first | (with_reducible first | exact HB.out | apply below_alloc | apply pw_below_drewN | apply below_drew1 | refine below_set ?_ GE215.out) | exact HB.out))) : w.heap.size ≤ gb216)); have n5_ := Aside0.mk ((by rw [hg]; exact Nat.ne_of_lt (blk_lt (g := gb215) (o := .cells #[.slice A0_0 l0_0.length c0_0, .slice A0_1 l0_1.length c0_1] 39 (0, 0)) (by (with_reducible repeat (first | refine blk_drewN ?_ _ | refine blk_drew ?_ | refine blk_alloc ?_ _)); exact BK215.out)) : gb215 ≠ gb216)); have n6_ := Aside0.mk ((by rw [hg]; exact Nat.ne_of_gt (blk_lt (g := gb215) (o := .cells #[.slice A0_0 l0_0.length c0_0, .slice A0_1 l0_1.length c0_1] 39 (0, 0)) (by (with_reducible repeat (first | refine blk_drewN ?_ _ | refine blk_drew ?_ | refine blk_alloc ?_ _)); exact BK215.out)) : gb216 ≠ gb215)); clear BK215; clear HB; have BK215 := n0_; have HB := n1_; have BK216 := n2_; have GW216 := n3_; have GE216 := n4_; have NB215_216 := n5_; have NB216_215 := n6_; clear n0_ n1_ n2_ n3_ n4_ n5_ n6_; clear hb hbox hg; have hnb8 := NB215_216.out; have hnc8 := NB216_215.out; have hcz9_0 : w7.cell? ⟨gb215, 0, none⟩ = some (.slice A0_0 l0_0.length c0_0) := (blk_cell BK215.out 0).trans rfl; have hcz9_1 : w7.cell? ⟨gb215, 1, none⟩ = some (.slice A0_1 l0_1.length c0_1) := (blk_cell BK215.out 1).trans rfl; have hfz9_0 := blk_frozen BK215.out 0; have hfz9_1 := blk_frozen BK215.out 1))
 repeat (go_quiet (first | ((with_reducible refine gate_dst (N := 4) rfl ?_); refine box_event ?hg (N := 4) ?hd (cs := #[.slice A0_0 l0_0.length c0_0, .slice A0_1 l0_1.length c0_1]) (t := 39) ?hr ?_; (case hd => rfl); (case hg => rfl); (case hr => first | (go_simp; done) | (go_simp; rfl)); intro gb215 hg w6 hbox hb; have n0_ := Aside0.mk (below_step (by repeat (first | (with_reducible first | exact HB.out | apply below_alloc | apply pw_below_drewN | apply below_drew1) | exact HB.out)) hb); have n1_ := Aside0.mk (hbox); have n2_ := Aside0.mk ((by rw [hg]; exact (below_size (by repeat (first | (with_reducible first | exact HB.out | apply below_alloc | apply pw_below_drewN | apply below_drew1) | exact HB.out))) : w.heap.size ≤ gb215)); have n3_ := Aside0.mk ((by rw [hg]; exact (below_size (by repeat (first | (with_reducible first | exact HB.out | apply below_alloc | apply pw_below_drewN | apply below_drew1) | exact HB.out))) : w.heap.size ≤ gb215)); clear HB; have HB := n0_; have BK215 := n1_; have GW215 := n2_; have GE215 := n3_; clear n0_ n1_ n2_ n3_; clear hb hbox hg) | ((with_reducible refine gate_dst (N := 8) rfl ?_); refine box_event ?hg (N := 8) ?hd (cs := #[.slice none 0 0, .slice none 0 0]) (t := 39) ?hr ?_; (case hd => rfl); (case hg => rfl); (case hr => first | (go_simp; done) | (go_simp; rfl)); intro gb216 hg w7 hbox hb; have n0_ := Aside0.mk (blk_below (g := gb215) (o := .cells #[.slice A0_0 l0_0.length c0_0, .slice A0_1 l0_1.length c0_1] 39 (0, 0)) (by (with_reducible repeat (first | refine blk_drewN ?_ _ | refine blk_drew ?_ | refine blk_alloc ?_ _)); exact BK215.out) hb); have n1_ := Aside0.mk (below_step (by repeat (first | (with_reducible first | exact HB.out | apply below_alloc | apply pw_below_drewN | apply below_drew1 | refine below_set ?_ GE215.out) | exact HB.out)) hb); have n2_ := Aside0.mk (hbox); have n3_ := Aside0.mk ((by rw [hg]; exact (below_size (by repeat (first | (with_reducible first | exact HB.out | apply below_alloc | apply pw_below_drewN | apply below_drew1 | refine below_set ?_ GE215.out) | exact HB.out))) : w.heap.size ≤ gb216)); have n4_ := Aside0.mk ((by rw [hg]; exact (below_size (by repeat (first | (with_reducible first | exact HB.out | apply below_alloc | apply pw_below_drewN | apply below_drew1 | refine below_set ?_ GE215.out) | exact HB.out))) : w.heap.size ≤ gb216)); have n5_ := Aside0.mk ((by rw [hg]; exact Nat.ne_of_lt (blk_lt (g := gb215) (o := .cells #[.slice A0_0 l0_0.length c0_0, .slice A0_1 l0_1.length c0_1] 39 (0, 0)) (by (with_reducible repeat (first | refine blk_drewN ?_ _ | refine blk_drew ?_ | refine blk_alloc ?_ _)); exact BK215.out)) : gb215 ≠ gb216)); have n6_ := Aside0.mk ((by rw [hg]; exact Nat.ne_of_gt (blk_lt (g := gb215) (o := .cells #[.slice A0_0 l0_0.length c0_0, .slice A0_1 l0_1.length c0_1] 39 (0, 0)) (by (with_reducible repeat (first | refine blk_drewN ?_ _ | refine blk_drew ?_ | refine blk_alloc ?_ _)); exact BK215.out)) : gb216 ≠ gb215)); clear BK215; clear HB; have BK215 := n0_; have HB := n1_; have BK216 := n2_; have GW216 := n3_; have GE216 := n4_; have NB215_216 := n5_; have NB216_215 := n6_; clear n0_ n1_ n2_ n3_ n4_ n5_ n6_; clear hb hbox hg; have hnb8 := NB215_216.out; have hnc8 := NB216_215.out; have hcz9_0 : w7.cell? ⟨gb215, 0, none⟩ = some (.slice A0_0 l0_0.length c0_0) := (blk_cell BK215.out 0).trans rfl; have hcz9_1 : w7.cell? ⟨gb215, 1, none⟩ = some (.slice A0_1 l0_1.length c0_1) := (blk_cell BK215.out 1).trans rfl; have hfz9_0 := blk_frozen BK215.out 0; have hfz9_1 := blk_frozen BK215.out 1)); go_upto_region 2 with (first | ((with_reducible refine gate_dst (N := 4) rfl ?_); refine box_event ?hg (N := 4) ?hd (cs := #[.slice A0_0 l0_0.length c0_0, .slice A0_1 l0_1.length c0_1]) (t := 39) ?hr ?_; (case hd => rfl); (case hg => rfl); (case hr => first | (go_simp; done) | (go_simp; rfl)); intro gb215 hg w6 hbox hb; have n0_ := Aside0.mk (below_step (by repeat (first | (with_reducible first | exact HB.out | apply below_alloc | apply pw_below_drewN | apply below_drew1) | exact HB.out)) hb); have n1_ := Aside0.mk (hbox); have n2_ := Aside0.mk ((by rw [hg]; exact (below_size (by repeat (first | (with_reducible first | exact HB.out | apply below_alloc | apply pw_below_drewN | apply below_drew1) | exact HB.out))) : w.heap.size ≤ gb215)); have n3_ := Aside0.mk ((by rw [hg]; exact (below_size (by repeat (first | (with_reducible first | exact HB.out | apply below_alloc | apply pw_below_drewN | apply below_drew1) | exact HB.out))) : w.heap.size ≤ gb215)); clear HB; have HB := n0_; have BK215 := n1_; have GW215 := n2_; have GE215 := n3_; clear n0_ n1_ n2_ n3_; clear hb hbox hg) | ((with_reducible refine gate_dst (N := 8) rfl ?_); refine box_event ?hg (N := 8) ?hd (cs := #[.slice none 0 0, .slice none 0 0]) (t := 39) ?hr ?_; (case hd => rfl); (case hg => rfl); (case hr => first | (go_simp; done) | (go_simp; rfl)); intro gb216 hg w7 hbox hb; have n0_ := Aside0.mk (blk_below (g := gb215) (o := .cells #[.slice A0_0 l0_0.length c0_0, .slice A0_1 l0_1.length c0_1] 39 (0, 0)) (by (with_reducible repeat (first | refine blk_drewN ?_ _ | refine blk_drew ?_ | refine blk_alloc ?_ _)); exact BK215.out) hb); have n1_ := Aside0.mk (below_step (by repeat (first | (with_reducible first | exact HB.out | apply below_alloc | apply pw_below_drewN | apply below_drew1 | refine below_set ?_ GE215.out) | exact HB.out)) hb); have n2_ := Aside0.mk (hbox); have n3_ := Aside0.mk ((by rw [hg]; exact (below_size (by repeat (first | (with_reducible first | exact HB.out | apply below_alloc | apply pw_below_drewN | apply below_drew1 | refine below_set ?_ GE215.out) | exact HB.out))) : w.heap.size ≤ gb216)); have n4_ := Aside0.mk ((by rw [hg]; exact (below_size (by repeat (first | (with_reducible first | exact HB.out | apply below_alloc | apply pw_below_drewN | apply below_drew1 | refine below_set ?_ GE215.out) | exact HB.out))) : w.heap.size ≤ gb216)); have n5_ := Aside0.mk ((by rw [hg]; exact Nat.ne_of_lt (blk_lt (g := gb215) (o := .cells #[.slice A0_0 l0_0.length c0_0, .slice A0_1 l0_1.length c0_1] 39 (0, 0)) (by (with_reducible repeat (first | refine blk_drewN ?_ _ | refine blk_drew ?_ | refine blk_alloc ?_ _)); exact BK215.out)) : gb215 ≠ gb216)); have n6_ := Aside0.mk ((by rw [hg]; exact Nat.ne_of_gt (blk_lt (g := gb215) (o := .cells #[.slice A0_0 l0_0.length c0_0, .slice A0_1 l0_1.length c0_1] 39 (0, 0)) (by (with_reducible repeat (first | refine blk_drewN ?_ _ | refine blk_drew ?_ | refine blk_alloc ?_ _)); exact BK215.out)) : gb216 ≠ gb215)); clear BK215; clear HB; have BK215 := n0_; have HB := n1_; have BK216 := n2_; have GW216 := n3_; have GE216 := n4_; have NB215_216 := n5_; have NB216_215 := n6_; clear n0_ n1_ n2_ n3_ n4_ n5_ n6_; clear hb hbox hg; have hnb8 := NB215_216.out; have hnc8 := NB216_215.out; have hcz9_0 : w7.cell? ⟨gb215, 0, none⟩ = some (.slice A0_0 l0_0.length c0_0) := (blk_cell BK215.out 0).trans rfl; have hcz9_1 : w7.cell? ⟨gb215, 1, none⟩ = some (.slice A0_1 l0_1.length c0_1) := (blk_cell BK215.out 1).trans rfl; have hfz9_0 := blk_frozen BK215.out 0; have hfz9_1 := blk_frozen BK215.out 1)))
 (try simp only [Act.put, List.setIfInBounds_toArray, List.set_cons_zero, List.set_cons_succ])
 go_cut [59] (fun v59 wc => ∃ (kq : Nat) (x59_4 : Bool), v59 = .bool x59_4 ∧ Aside0 (impl_pool.j0 kq a1 a2 (l0_0.length : Int) x59_4 l0_0 l0_1 = some (r1, r2)) ∧ Aside0 (kq ≤ k) ∧ Aside0 (wc.heap[gb215]? = some (.cells #[(.slice A0_0 l0_0.length c0_0), (.slice A0_1 l0_1.length c0_1)] 39 (0, 0))) ∧ Aside0 (wc.heap[gb216]? = some (.cells #[(.slice none 0 0), (.slice none 0 0)] 39 (0, 0))) ∧ Aside0 (Below w.heap.size w wc))
 case first =>
  have H := HC5.out
  clear HC5
  replace H := Option.bind_eq_some_iff.mp H
  obtain ⟨t217, A100, H⟩ := H
  replace H : (if t217 = true then (if (l0_0.length : Int) < 2 then (impl_pool.j0 k a1 a2 (l0_0.length : Int) true l0_0 l0_1) else (if a1 < 1 then (impl_pool.j0 k a1 a2 (l0_0.length : Int) true l0_0 l0_1) else (if a2 < 1 then (impl_pool.j0 k a1 a2 (l0_0.length : Int) true l0_0 l0_1) else (if 0 ≤ (wrap64 ((l0_0.length : Int) - 1)) then (if (wrap64 ((l0_0.length : Int) - 1)) < (l0_0.length : Int) then (if a1 > (rd l0_0 (wrap64 ((l0_0.length : Int) - 1))) then (impl_pool.j0 k a1 a2 (l0_0.length : Int) true l0_0 l0_1) else (if 0 ≤ (wrap64 ((l0_0.length : Int) - 2)) then (if (wrap64 ((l0_0.length : Int) - 2)) < (l0_0.length : Int) then (impl_pool.j0 k a1 a2 (l0_0.length : Int) (decide (a1 > (rd l0_0 (wrap64 ((l0_0.length : Int) - 2))))) l0_0 l0_1) else (none)) else (none))) else (none)) else (none))))) else (impl_pool.j0 k a1 a2 (l0_0.length : Int) true l0_0 l0_1)) = some (r1, r2) := H
  have A10 := Aside0.mk A100
  clear A100
  by_cases c11 : t217 = true
  ·subst c11
   have H1 : (if (l0_0.length : Int) < 2 then (impl_pool.j0 k a1 a2 (l0_0.length : Int) true l0_0 l0_1) else (if a1 < 1 then (impl_pool.j0 k a1 a2 (l0_0.length : Int) true l0_0 l0_1) else (if a2 < 1 then (impl_pool.j0 k a1 a2 (l0_0.length : Int) true l0_0 l0_1) else (if 0 ≤ (wrap64 ((l0_0.length : Int) - 1)) then (if (wrap64 ((l0_0.length : Int) - 1)) < (l0_0.length : Int) then (if a1 > (rd l0_0 (wrap64 ((l0_0.length : Int) - 1))) then (impl_pool.j0 k a1 a2 (l0_0.length : Int) true l0_0 l0_1) else (if 0 ≤ (wrap64 ((l0_0.length : Int) - 2)) then (if (wrap64 ((l0_0.length : Int) - 2)) < (l0_0.length : Int) then (impl_pool.j0 k a1 a2 (l0_0.length : Int) (decide (a1 > (rd l0_0 (wrap64 ((l0_0.length : Int) - 2))))) l0_0 l0_1) else (none)) else (none))) else (none)) else (none))))) = some (r1, r2) := by rw [if_pos rfl] at H; exact H
   clear H
   have H := H1
   clear H1
   by_cases c12 : (l0_0.length : Int) < 2
   ·rw [if_pos c12] at H
    have c12b0 : decide ((l0_0.length : Int) < 2) = true := decide_eq_true c12
    have c12b1 : decide (l0_0.length < 2) = true := decide_eq_true (by omega)
    clear c12
    (first | rw [c12b0] | (simp only [i64_w, i32_w]; rw [c12b0]) | skip)
    have H' := Aside0.mk H
    clear H
    have hnb13 := NB215_216.out
    have hnc13 := NB216_215.out
    have hcz14_0 : w7.cell? ⟨gb215, 0, none⟩ = some (.slice A0_0 l0_0.length c0_0) := (blk_cell BK215.out 0).trans rfl
    have hcz14_1 : w7.cell? ⟨gb215, 1, none⟩ = some (.slice A0_1 l0_1.length c0_1) := (blk_cell BK215.out 1).trans rfl
    have hfz14_0 := blk_frozen BK215.out 0
    have hfz14_1 := blk_frozen BK215.out 1
    go_wp2_with (first | (go_at_call 56; (with_reducible refine (impl_TensorOk.calls k _ _ l0_0 _ _ l0_1 true _ ?side1 ?side2 ?side3 ?side4 A10.out).mono ?_); (case side1 => repeat (first | exact (Kd.C_below HR0_0.out HB.out) | (with_reducible refine Kd.C_alloc ?_ _) | (with_reducible refine Kd.C_drewN ?_ _) | (with_reducible refine Kd.C_drew ?_))); (case side2 => exact HC0_0.out); (case side3 => repeat (first | exact (Kd.C_below HR0_1.out HB.out) | (with_reducible refine Kd.C_alloc ?_ _) | (with_reducible refine Kd.C_drewN ?_ _) | (with_reducible refine Kd.C_drew ?_))); (case side4 => exact HC0_1.out); rintro e w15 ⟨rfl, hb⟩; have n0_ := Aside0.mk (blk_below (g := gb215) (o := .cells #[.slice A0_0 l0_0.length c0_0, .slice A0_1 l0_1.length c0_1] 39 (0, 0)) (by (with_reducible repeat (first | refine blk_drewN ?_ _ | refine blk_drew ?_ | refine blk_alloc ?_ _)); exact BK215.out) hb); have n1_ := Aside0.mk (blk_below (g := gb216) (o := .cells #[.slice none 0 0, .slice none 0 0] 39 (0, 0)) (by (with_reducible repeat (first | refine blk_drewN ?_ _ | refine blk_drew ?_ | refine blk_alloc ?_ _)); exact BK216.out) hb); have n2_ := Aside0.mk (below_step (by repeat (first | (with_reducible first | exact HB.out | apply below_alloc | apply pw_below_drewN | apply below_drew1 | refine below_set ?_ GE215.out | refine below_set ?_ GE216.out) | exact HB.out)) hb); clear BK215; clear BK216; clear HB; have BK215 := n0_; have BK216 := n1_; have HB := n2_; clear n0_ n1_ n2_; (try clear hb); (try clear hb2); (try clear hk); (try clear hi)))
    repeat (go_quiet (first | (go_at_call 56; (with_reducible refine (impl_TensorOk.calls k _ _ l0_0 _ _ l0_1 true _ ?side1 ?side2 ?side3 ?side4 A10.out).mono ?_); (case side1 => repeat (first | exact (Kd.C_below HR0_0.out HB.out) | (with_reducible refine Kd.C_alloc ?_ _) | (with_reducible refine Kd.C_drewN ?_ _) | (with_reducible refine Kd.C_drew ?_))); (case side2 => exact HC0_0.out); (case side3 => repeat (first | exact (Kd.C_below HR0_1.out HB.out) | (with_reducible refine Kd.C_alloc ?_ _) | (with_reducible refine Kd.C_drewN ?_ _) | (with_reducible refine Kd.C_drew ?_))); (case side4 => exact HC0_1.out); rintro e w15 ⟨rfl, hb⟩; have n0_ := Aside0.mk (blk_below (g := gb215) (o := .cells #[.slice A0_0 l0_0.length c0_0, .slice A0_1 l0_1.length c0_1] 39 (0, 0)) (by (with_reducible repeat (first | refine blk_drewN ?_ _ | refine blk_drew ?_ | refine blk_alloc ?_ _)); exact BK215.out) hb); have n1_ := Aside0.mk (blk_below (g := gb216) (o := .cells #[.slice none 0 0, .slice none 0 0] 39 (0, 0)) (by (with_reducible repeat (first | refine blk_drewN ?_ _ | refine blk_drew ?_ | refine blk_alloc ?_ _)); exact BK216.out) hb); have n2_ := Aside0.mk (below_step (by repeat (first | (with_reducible first | exact HB.out | apply below_alloc | apply pw_below_drewN | apply below_drew1 | refine below_set ?_ GE215.out | refine below_set ?_ GE216.out) | exact HB.out)) hb); clear BK215; clear BK216; clear HB; have BK215 := n0_; have BK216 := n1_; have HB := n2_; clear n0_ n1_ n2_; (try clear hb); (try clear hb2); (try clear hk); (try clear hi))); try go_wp2_with (first | (go_at_call 56; (with_reducible refine (impl_TensorOk.calls k _ _ l0_0 _ _ l0_1 true _ ?side1 ?side2 ?side3 ?side4 A10.out).mono ?_); (case side1 => repeat (first | exact (Kd.C_below HR0_0.out HB.out) | (with_reducible refine Kd.C_alloc ?_ _) | (with_reducible refine Kd.C_drewN ?_ _) | (with_reducible refine Kd.C_drew ?_))); (case side2 => exact HC0_0.out); (case side3 => repeat (first | exact (Kd.C_below HR0_1.out HB.out) | (with_reducible refine Kd.C_alloc ?_ _) | (with_reducible refine Kd.C_drewN ?_ _) | (with_reducible refine Kd.C_drew ?_))); (case side4 => exact HC0_1.out); rintro e w15 ⟨rfl, hb⟩; have n0_ := Aside0.mk (blk_below (g := gb215) (o := .cells #[.slice A0_0 l0_0.length c0_0, .slice A0_1 l0_1.length c0_1] 39 (0, 0)) (by (with_reducible repeat (first | refine blk_drewN ?_ _ | refine blk_drew ?_ | refine blk_alloc ?_ _)); exact BK215.out) hb); have n1_ := Aside0.mk (blk_below (g := gb216) (o := .cells #[.slice none 0 0, .slice none 0 0] 39 (0, 0)) (by (with_reducible repeat (first | refine blk_drewN ?_ _ | refine blk_drew ?_ | refine blk_alloc ?_ _)); exact BK216.out) hb); have n2_ := Aside0.mk (below_step (by repeat (first | (with_reducible first | exact HB.out | apply below_alloc | apply pw_below_drewN | apply below_drew1 | refine below_set ?_ GE215.out | refine below_set ?_ GE216.out) | exact HB.out)) hb); clear BK215; clear BK216; clear HB; have BK215 := n0_; have BK216 := n1_; have HB := n2_; clear n0_ n1_ n2_; (try clear hb); (try clear hb2); (try clear hk); (try clear hi))))
    go_meet
    case rel => exact ⟨_, (true), (by first | rfl | (simp; done) | (simp [*]; done)), H', ⟨by first | omega | exact Nat.le_refl _⟩, ⟨by (with_reducible repeat (first | refine blk_drewN ?_ _ | refine blk_drew ?_ | refine blk_alloc ?_ _)); exact BK215.out⟩, ⟨by (with_reducible repeat (first | refine blk_drewN ?_ _ | refine blk_drew ?_ | refine blk_alloc ?_ _)); exact BK216.out⟩, ⟨by repeat (first | (with_reducible first | exact HB.out | apply below_alloc | apply pw_below_drewN | apply below_drew1 | refine below_set ?_ GE215.out | refine below_set ?_ GE216.out) | exact HB.out)⟩⟩
   ·rw [if_neg c12] at H
    have c12b0 : decide ((l0_0.length : Int) < 2) = false := decide_eq_false c12
    have c12b1 : decide (l0_0.length < 2) = false := decide_eq_false (by omega)
    clear c12
    (first | rw [c12b0] | (simp only [i64_w, i32_w]; rw [c12b0]) | skip)
    by_cases c16 : a1 < 1
    ·rw [if_pos c16] at H
     have c16b0 : decide (a1 < 1) = true := decide_eq_true c16
     clear c16
     have H' := Aside0.mk H
     clear H
     have hnb17 := NB215_216.out
     have hnc17 := NB216_215.out
     have hcz18_0 : w7.cell? ⟨gb215, 0, none⟩ = some (.slice A0_0 l0_0.length c0_0) := (blk_cell BK215.out 0).trans rfl
     have hcz18_1 : w7.cell? ⟨gb215, 1, none⟩ = some (.slice A0_1 l0_1.length c0_1) := (blk_cell BK215.out 1).trans rfl
     have hfz18_0 := blk_frozen BK215.out 0
     have hfz18_1 := blk_frozen BK215.out 1
     go_wp2_with (first | (go_at_call 56; (with_reducible refine (impl_TensorOk.calls k _ _ l0_0 _ _ l0_1 true _ ?side1 ?side2 ?side3 ?side4 A10.out).mono ?_); (case side1 => repeat (first | exact (Kd.C_below HR0_0.out HB.out) | (with_reducible refine Kd.C_alloc ?_ _) | (with_reducible refine Kd.C_drewN ?_ _) | (with_reducible refine Kd.C_drew ?_))); (case side2 => exact HC0_0.out); (case side3 => repeat (first | exact (Kd.C_below HR0_1.out HB.out) | (with_reducible refine Kd.C_alloc ?_ _) | (with_reducible refine Kd.C_drewN ?_ _) | (with_reducible refine Kd.C_drew ?_))); (case side4 => exact HC0_1.out); rintro e w19 ⟨rfl, hb⟩; have n0_ := Aside0.mk (blk_below (g := gb215) (o := .cells #[.slice A0_0 l0_0.length c0_0, .slice A0_1 l0_1.length c0_1] 39 (0, 0)) (by (with_reducible repeat (first | refine blk_drewN ?_ _ | refine blk_drew ?_ | refine blk_alloc ?_ _)); exact BK215.out) hb); have n1_ := Aside0.mk (blk_below (g := gb216) (o := .cells #[.slice none 0 0, .slice none 0 0] 39 (0, 0)) (by (with_reducible repeat (first | refine blk_drewN ?_ _ | refine blk_drew ?_ | refine blk_alloc ?_ _)); exact BK216.out) hb); have n2_ := Aside0.mk (below_step (by repeat (first | (with_reducible first | exact HB.out | apply below_alloc | apply pw_below_drewN | apply below_drew1 | refine below_set ?_ GE215.out | refine below_set ?_ GE216.out) | exact HB.out)) hb); clear BK215; clear BK216; clear HB; have BK215 := n0_; have BK216 := n1_; have HB := n2_; clear n0_ n1_ n2_; (try clear hb); (try clear hb2); (try clear hk); (try clear hi)))
     repeat (go_quiet (first | (go_at_call 56; (with_reducible refine (impl_TensorOk.calls k _ _ l0_0 _ _ l0_1 true _ ?side1 ?side2 ?side3 ?side4 A10.out).mono ?_); (case side1 => repeat (first | exact (Kd.C_below HR0_0.out HB.out) | (with_reducible refine Kd.C_alloc ?_ _) | (with_reducible refine Kd.C_drewN ?_ _) | (with_reducible refine Kd.C_drew ?_))); (case side2 => exact HC0_0.out); (case side3 => repeat (first | exact (Kd.C_below HR0_1.out HB.out) | (with_reducible refine Kd.C_alloc ?_ _) | (with_reducible refine Kd.C_drewN ?_ _) | (with_reducible refine Kd.C_drew ?_))); (case side4 => exact HC0_1.out); rintro e w19 ⟨rfl, hb⟩; have n0_ := Aside0.mk (blk_below (g := gb215) (o := .cells #[.slice A0_0 l0_0.length c0_0, .slice A0_1 l0_1.length c0_1] 39 (0, 0)) (by (with_reducible repeat (first | refine blk_drewN ?_ _ | refine blk_drew ?_ | refine blk_alloc ?_ _)); exact BK215.out) hb); have n1_ := Aside0.mk (blk_below (g := gb216) (o := .cells #[.slice none 0 0, .slice none 0 0] 39 (0, 0)) (by (with_reducible repeat (first | refine blk_drewN ?_ _ | refine blk_drew ?_ | refine blk_alloc ?_ _)); exact BK216.out) hb); have n2_ := Aside0.mk (below_step (by repeat (first | (with_reducible first | exact HB.out | apply below_alloc | apply pw_below_drewN | apply below_drew1 | refine below_set ?_ GE215.out | refine below_set ?_ GE216.out) | exact HB.out)) hb); clear BK215; clear BK216; clear HB; have BK215 := n0_; have BK216 := n1_; have HB := n2_; clear n0_ n1_ n2_; (try clear hb); (try clear hb2); (try clear hk); (try clear hi))); try go_wp2_with (first | (go_at_call 56; (with_reducible refine (impl_TensorOk.calls k _ _ l0_0 _ _ l0_1 true _ ?side1 ?side2 ?side3 ?side4 A10.out).mono ?_); (case side1 => repeat (first | exact (Kd.C_below HR0_0.out HB.out) | (with_reducible refine Kd.C_alloc ?_ _) | (with_reducible refine Kd.C_drewN ?_ _) | (with_reducible refine Kd.C_drew ?_))); (case side2 => exact HC0_0.out); (case side3 => repeat (first | exact (Kd.C_below HR0_1.out HB.out) | (with_reducible refine Kd.C_alloc ?_ _) | (with_reducible refine Kd.C_drewN ?_ _) | (with_reducible refine Kd.C_drew ?_))); (case side4 => exact HC0_1.out); rintro e w19 ⟨rfl, hb⟩; have n0_ := Aside0.mk (blk_below (g := gb215) (o := .cells #[.slice A0_0 l0_0.length c0_0, .slice A0_1 l0_1.length c0_1] 39 (0, 0)) (by (with_reducible repeat (first | refine blk_drewN ?_ _ | refine blk_drew ?_ | refine blk_alloc ?_ _)); exact BK215.out) hb); have n1_ := Aside0.mk (blk_below (g := gb216) (o := .cells #[.slice none 0 0, .slice none 0 0] 39 (0, 0)) (by (with_reducible repeat (first | refine blk_drewN ?_ _ | refine blk_drew ?_ | refine blk_alloc ?_ _)); exact BK216.out) hb); have n2_ := Aside0.mk (below_step (by repeat (first | (with_reducible first | exact HB.out | apply below_alloc | apply pw_below_drewN | apply below_drew1 | refine below_set ?_ GE215.out | refine below_set ?_ GE216.out) | exact HB.out)) hb); clear BK215; clear BK216; clear HB; have BK215 := n0_; have BK216 := n1_; have HB := n2_; clear n0_ n1_ n2_; (try clear hb); (try clear hb2); (try clear hk); (try clear hi))))
     go_meet
     case rel => exact ⟨_, (true), (by first | rfl | (simp; done) | (simp [*]; done)), H', ⟨by first | omega | exact Nat.le_refl _⟩, ⟨by (with_reducible repeat (first | refine blk_drewN ?_ _ | refine blk_drew ?_ | refine blk_alloc ?_ _)); exact BK215.out⟩, ⟨by (with_reducible repeat (first | refine blk_drewN ?_ _ | refine blk_drew ?_ | refine blk_alloc ?_ _)); exact BK216.out⟩, ⟨by repeat (first | (with_reducible first | exact HB.out | apply below_alloc | apply pw_below_drewN | apply below_drew1 | refine below_set ?_ GE215.out | refine below_set ?_ GE216.out) | exact HB.out)⟩⟩
    ·rw [if_neg c16] at H
     have c16b0 : decide (a1 < 1) = false := decide_eq_false c16
     clear c16
     by_cases c20 : a2 < 1
     ·rw [if_pos c20] at H
      have c20b0 : decide (a2 < 1) = true := decide_eq_true c20
      clear c20
      have H' := Aside0.mk H
      clear H
      have hnb21 := NB215_216.out
      have hnc21 := NB216_215.out
      have hcz22_0 : w7.cell? ⟨gb215, 0, none⟩ = some (.slice A0_0 l0_0.length c0_0) := (blk_cell BK215.out 0).trans rfl
      have hcz22_1 : w7.cell? ⟨gb215, 1, none⟩ = some (.slice A0_1 l0_1.length c0_1) := (blk_cell BK215.out 1).trans rfl
      have hfz22_0 := blk_frozen BK215.out 0
      have hfz22_1 := blk_frozen BK215.out 1
      go_wp2_with (first | (go_at_call 56; (with_reducible refine (impl_TensorOk.calls k _ _ l0_0 _ _ l0_1 true _ ?side1 ?side2 ?side3 ?side4 A10.out).mono ?_); (case side1 => repeat (first | exact (Kd.C_below HR0_0.out HB.out) | (with_reducible refine Kd.C_alloc ?_ _) | (with_reducible refine Kd.C_drewN ?_ _) | (with_reducible refine Kd.C_drew ?_))); (case side2 => exact HC0_0.out); (case side3 => repeat (first | exact (Kd.C_below HR0_1.out HB.out) | (with_reducible refine Kd.C_alloc ?_ _) | (with_reducible refine Kd.C_drewN ?_ _) | (with_reducible refine Kd.C_drew ?_))); (case side4 => exact HC0_1.out); rintro e w23 ⟨rfl, hb⟩; have n0_ := Aside0.mk (blk_below (g := gb215) (o := .cells #[.slice A0_0 l0_0.length c0_0, .slice A0_1 l0_1.length c0_1] 39 (0, 0)) (by (with_reducible repeat (first | refine blk_drewN ?_ _ | refine blk_drew ?_ | refine blk_alloc ?_ _)); exact BK215.out) hb); have n1_ := Aside0.mk (blk_below (g := gb216) (o := .cells #[.slice none 0 0, .slice none 0 0] 39 (0, 0)) (by (with_reducible repeat (first | refine blk_drewN ?_ _ | refine blk_drew ?_ | refine blk_alloc ?_ _)); exact BK216.out) hb); have n2_ := Aside0.mk (below_step (by repeat (first | (with_reducible first | exact HB.out | apply below_alloc | apply pw_below_drewN | apply below_drew1 | refine below_set ?_ GE215.out | refine below_set ?_ GE216.out) | exact HB.out)) hb); clear BK215; clear BK216; clear HB; have BK215 := n0_; have BK216 := n1_; have HB := n2_; clear n0_ n1_ n2_; (try clear hb); (try clear hb2); (try clear hk); (try clear hi)))
      repeat (go_quiet (first | (go_at_call 56; (with_reducible refine (impl_TensorOk.calls k _ _ l0_0 _ _ l0_1 true _ ?side1 ?side2 ?side3 ?side4 A10.out).mono ?_); (case side1 => repeat (first | exact (Kd.C_below HR0_0.out HB.out) | (with_reducible refine Kd.C_alloc ?_ _) | (with_reducible refine Kd.C_drewN ?_ _) | (with_reducible refine Kd.C_drew ?_))); (case side2 => exact HC0_0.out); (case side3 => repeat (first | exact (Kd.C_below HR0_1.out HB.out) | (with_reducible refine Kd.C_alloc ?_ _) | (with_reducible refine Kd.C_drewN ?_ _) | (with_reducible refine Kd.C_drew ?_))); (case side4 => exact HC0_1.out); rintro e w23 ⟨rfl, hb⟩; have n0_ := Aside0.mk (blk_below (g := gb215) (o := .cells #[.slice A0_0 l0_0.length c0_0, .slice A0_1 l0_1.length c0_1] 39 (0, 0)) (by (with_reducible repeat (first | refine blk_drewN ?_ _ | refine blk_drew ?_ | refine blk_alloc ?_ _)); exact BK215.out) hb); have n1_ := Aside0.mk (blk_below (g := gb216) (o := .cells #[.slice none 0 0, .slice none 0 0] 39 (0, 0)) (by (with_reducible repeat (first | refine blk_drewN ?_ _ | refine blk_drew ?_ | refine blk_alloc ?_ _)); exact BK216.out) hb); have n2_ := Aside0.mk (below_step (by repeat (first | (with_reducible first | exact HB.out | apply below_alloc | apply pw_below_drewN | apply below_drew1 | refine below_set ?_ GE215.out | refine below_set ?_ GE216.out) | exact HB.out)) hb); clear BK215; clear BK216; clear HB; have BK215 := n0_; have BK216 := n1_; have HB := n2_; clear n0_ n1_ n2_; (try clear hb); (try clear hb2); (try clear hk); (try clear hi))); try go_wp2_with (first | (go_at_call 56; (with_reducible refine (impl_TensorOk.calls k _ _ l0_0 _ _ l0_1 true _ ?side1 ?side2 ?side3 ?side4 A10.out).mono ?_); (case side1 => repeat (first | exact (Kd.C_below HR0_0.out HB.out) | (with_reducible refine Kd.C_alloc ?_ _) | (with_reducible refine Kd.C_drewN ?_ _) | (with_reducible refine Kd.C_drew ?_))); (case side2 => exact HC0_0.out); (case side3 => repeat (first | exact (Kd.C_below HR0_1.out HB.out) | (with_reducible refine Kd.C_alloc ?_ _) | (with_reducible refine Kd.C_drewN ?_ _) | (with_reducible refine Kd.C_drew ?_))); (case side4 => exact HC0_1.out); rintro e w23 ⟨rfl, hb⟩; have n0_ := Aside0.mk (blk_below (g := gb215) (o := .cells #[.slice A0_0 l0_0.length c0_0, .slice A0_1 l0_1.length c0_1] 39 (0, 0)) (by (with_reducible repeat (first | refine blk_drewN ?_ _ | refine blk_drew ?_ | refine blk_alloc ?_ _)); exact BK215.out) hb); have n1_ := Aside0.mk (blk_below (g := gb216) (o := .cells #[.slice none 0 0, .slice none 0 0] 39 (0, 0)) (by (with_reducible repeat (first | refine blk_drewN ?_ _ | refine blk_drew ?_ | refine blk_alloc ?_ _)); exact BK216.out) hb); have n2_ := Aside0.mk (below_step (by repeat (first | (with_reducible first | exact HB.out | apply below_alloc | apply pw_below_drewN | apply below_drew1 | refine below_set ?_ GE215.out | refine below_set ?_ GE216.out) | exact HB.out)) hb); clear BK215; clear BK216; clear HB; have BK215 := n0_; have BK216 := n1_; have HB := n2_; clear n0_ n1_ n2_; (try clear hb); (try clear hb2); (try clear hk); (try clear hi))))
      go_meet
      case rel => exact ⟨_, (true), (by first | rfl | (simp; done) | (simp [*]; done)), H', ⟨by first | omega | exact Nat.le_refl _⟩, ⟨by (with_reducible repeat (first | refine blk_drewN ?_ _ | refine blk_drew ?_ | refine blk_alloc ?_ _)); exact BK215.out⟩, ⟨by (with_reducible repeat (first | refine blk_drewN ?_ _ | refine blk_drew ?_ | refine blk_alloc ?_ _)); exact BK216.out⟩, ⟨by repeat (first | (with_reducible first | exact HB.out | apply below_alloc | apply pw_below_drewN | apply below_drew1 | refine below_set ?_ GE215.out | refine below_set ?_ GE216.out) | exact HB.out)⟩⟩
     ·rw [if_neg c20] at H
      have c20b0 : decide (a2 < 1) = false := decide_eq_false c20
      clear c20
      obtain ⟨ji24, hji24⟩ : ∃ j_ : Int, (wrap64 ((l0_0.length : Int) - 1)) = j_ := ⟨_, rfl⟩
      replace H : (if 0 ≤ (ji24) then (if (ji24) < (l0_0.length : Int) then (if a1 > (rd l0_0 (ji24)) then (impl_pool.j0 k a1 a2 (l0_0.length : Int) true l0_0 l0_1) else (if 0 ≤ (wrap64 ((l0_0.length : Int) - 2)) then (if (wrap64 ((l0_0.length : Int) - 2)) < (l0_0.length : Int) then (impl_pool.j0 k a1 a2 (l0_0.length : Int) (decide (a1 > (rd l0_0 (wrap64 ((l0_0.length : Int) - 2))))) l0_0 l0_1) else (none)) else (none))) else (none)) else (none)) = some (r1, r2) := by first | (rw [hji24] at H; exact H) | (simp only [hji24] at H ⊢; exact H)
      (try rw [hji24] at A10)
      have hji24w : (IntKind.i64.wrap ((l0_0.length : Int) - 1)) = ji24 := (i64_w _).trans hji24
      by_cases c25 : 0 ≤ (ji24)
      ·rw [if_pos c25] at H
       have c25b0 : decide (0 ≤ (ji24)) = true := decide_eq_true c25
       clear c25
       by_cases c26 : (ji24) < (l0_0.length : Int)
       ·rw [if_pos c26] at H
        have c26b0 : decide ((ji24) < (l0_0.length : Int)) = true := decide_eq_true c26
        clear c26
        by_cases c27 : a1 > (rd l0_0 (ji24))
        ·rw [if_pos c27] at H
         have c27b0 : decide ((rd l0_0 (ji24)) < a1) = true := decide_eq_true c27
         clear c27
         have H' := Aside0.mk H
         clear H
         have hnb28 := NB215_216.out
         have hnc28 := NB216_215.out
         have hcz29_0 : w7.cell? ⟨gb215, 0, none⟩ = some (.slice A0_0 l0_0.length c0_0) := (blk_cell BK215.out 0).trans rfl
         have hcz29_1 : w7.cell? ⟨gb215, 1, none⟩ = some (.slice A0_1 l0_1.length c0_1) := (blk_cell BK215.out 1).trans rfl
         have hfz29_0 := blk_frozen BK215.out 0
         have hfz29_1 := blk_frozen BK215.out 1
         go_wp2_with (first | (go_at_call 56; (with_reducible refine (impl_TensorOk.calls k _ _ l0_0 _ _ l0_1 true _ ?side1 ?side2 ?side3 ?side4 A10.out).mono ?_); (case side1 => repeat (first | exact (Kd.C_below HR0_0.out HB.out) | (with_reducible refine Kd.C_alloc ?_ _) | (with_reducible refine Kd.C_drewN ?_ _) | (with_reducible refine Kd.C_drew ?_))); (case side2 => exact HC0_0.out); (case side3 => repeat (first | exact (Kd.C_below HR0_1.out HB.out) | (with_reducible refine Kd.C_alloc ?_ _) | (with_reducible refine Kd.C_drewN ?_ _) | (with_reducible refine Kd.C_drew ?_))); (case side4 => exact HC0_1.out); rintro e w30 ⟨rfl, hb⟩; have n0_ := Aside0.mk (blk_below (g := gb215) (o := .cells #[.slice A0_0 l0_0.length c0_0, .slice A0_1 l0_1.length c0_1] 39 (0, 0)) (by (with_reducible repeat (first | refine blk_drewN ?_ _ | refine blk_drew ?_ | refine blk_alloc ?_ _)); exact BK215.out) hb); have n1_ := Aside0.mk (blk_below (g := gb216) (o := .cells #[.slice none 0 0, .slice none 0 0] 39 (0, 0)) (by (with_reducible repeat (first | refine blk_drewN ?_ _ | refine blk_drew ?_ | refine blk_alloc ?_ _)); exact BK216.out) hb); have n2_ := Aside0.mk (below_step (by repeat (first | (with_reducible first | exact HB.out | apply below_alloc | apply pw_below_drewN | apply below_drew1 | refine below_set ?_ GE215.out | refine below_set ?_ GE216.out) | exact HB.out)) hb); clear BK215; clear BK216; clear HB; have BK215 := n0_; have BK216 := n1_; have HB := n2_; clear n0_ n1_ n2_; (try clear hb); (try clear hb2); (try clear hk); (try clear hi); have hcz31_0 : w30.cell? ⟨gb215, 0, none⟩ = some (.slice A0_0 l0_0.length c0_0) := (blk_cell BK215.out 0).trans rfl; have hcz31_1 : w30.cell? ⟨gb215, 1, none⟩ = some (.slice A0_1 l0_1.length c0_1) := (blk_cell BK215.out 1).trans rfl; have hfz31_0 := blk_frozen BK215.out 0; have hfz31_1 := blk_frozen BK215.out 1; have p218 : 0 ≤ ((ji24) : Int) := of_decide_eq_true (by first | (with_reducible assumption) | assumption); have q218 : (ji24) < (l0_0.length : Int) := of_decide_eq_true (by first | (with_reducible assumption) | assumption); obtain ⟨ad218, e218, hx218_0⟩ := Kd.at_int HR0_0.out (ji24) p218 q218; cases e218; replace hx218_0 := (HB.out.cell (World.block_lt_of_cell? w _ hx218_0)).trans hx218_0; replace p218 := eq_true p218; replace q218 := eq_true q218))
         repeat (go_quiet (first | (go_at_call 56; (with_reducible refine (impl_TensorOk.calls k _ _ l0_0 _ _ l0_1 true _ ?side1 ?side2 ?side3 ?side4 A10.out).mono ?_); (case side1 => repeat (first | exact (Kd.C_below HR0_0.out HB.out) | (with_reducible refine Kd.C_alloc ?_ _) | (with_reducible refine Kd.C_drewN ?_ _) | (with_reducible refine Kd.C_drew ?_))); (case side2 => exact HC0_0.out); (case side3 => repeat (first | exact (Kd.C_below HR0_1.out HB.out) | (with_reducible refine Kd.C_alloc ?_ _) | (with_reducible refine Kd.C_drewN ?_ _) | (with_reducible refine Kd.C_drew ?_))); (case side4 => exact HC0_1.out); rintro e w30 ⟨rfl, hb⟩; have n0_ := Aside0.mk (blk_below (g := gb215) (o := .cells #[.slice A0_0 l0_0.length c0_0, .slice A0_1 l0_1.length c0_1] 39 (0, 0)) (by (with_reducible repeat (first | refine blk_drewN ?_ _ | refine blk_drew ?_ | refine blk_alloc ?_ _)); exact BK215.out) hb); have n1_ := Aside0.mk (blk_below (g := gb216) (o := .cells #[.slice none 0 0, .slice none 0 0] 39 (0, 0)) (by (with_reducible repeat (first | refine blk_drewN ?_ _ | refine blk_drew ?_ | refine blk_alloc ?_ _)); exact BK216.out) hb); have n2_ := Aside0.mk (below_step (by repeat (first | (with_reducible first | exact HB.out | apply below_alloc | apply pw_below_drewN | apply below_drew1 | refine below_set ?_ GE215.out | refine below_set ?_ GE216.out) | exact HB.out)) hb); clear BK215; clear BK216; clear HB; have BK215 := n0_; have BK216 := n1_; have HB := n2_; clear n0_ n1_ n2_; (try clear hb); (try clear hb2); (try clear hk); (try clear hi); have hcz31_0 : w30.cell? ⟨gb215, 0, none⟩ = some (.slice A0_0 l0_0.length c0_0) := (blk_cell BK215.out 0).trans rfl; have hcz31_1 : w30.cell? ⟨gb215, 1, none⟩ = some (.slice A0_1 l0_1.length c0_1) := (blk_cell BK215.out 1).trans rfl; have hfz31_0 := blk_frozen BK215.out 0; have hfz31_1 := blk_frozen BK215.out 1; have p218 : 0 ≤ ((ji24) : Int) := of_decide_eq_true (by first | (with_reducible assumption) | assumption); have q218 : (ji24) < (l0_0.length : Int) := of_decide_eq_true (by first | (with_reducible assumption) | assumption); obtain ⟨ad218, e218, hx218_0⟩ := Kd.at_int HR0_0.out (ji24) p218 q218; cases e218; replace hx218_0 := (HB.out.cell (World.block_lt_of_cell? w _ hx218_0)).trans hx218_0; replace p218 := eq_true p218; replace q218 := eq_true q218)); try go_wp2_with (first | (go_at_call 56; (with_reducible refine (impl_TensorOk.calls k _ _ l0_0 _ _ l0_1 true _ ?side1 ?side2 ?side3 ?side4 A10.out).mono ?_); (case side1 => repeat (first | exact (Kd.C_below HR0_0.out HB.out) | (with_reducible refine Kd.C_alloc ?_ _) | (with_reducible refine Kd.C_drewN ?_ _) | (with_reducible refine Kd.C_drew ?_))); (case side2 => exact HC0_0.out); (case side3 => repeat (first | exact (Kd.C_below HR0_1.out HB.out) | (with_reducible refine Kd.C_alloc ?_ _) | (with_reducible refine Kd.C_drewN ?_ _) | (with_reducible refine Kd.C_drew ?_))); (case side4 => exact HC0_1.out); rintro e w30 ⟨rfl, hb⟩; have n0_ := Aside0.mk (blk_below (g := gb215) (o := .cells #[.slice A0_0 l0_0.length c0_0, .slice A0_1 l0_1.length c0_1] 39 (0, 0)) (by (with_reducible repeat (first | refine blk_drewN ?_ _ | refine blk_drew ?_ | refine blk_alloc ?_ _)); exact BK215.out) hb); have n1_ := Aside0.mk (blk_below (g := gb216) (o := .cells #[.slice none 0 0, .slice none 0 0] 39 (0, 0)) (by (with_reducible repeat (first | refine blk_drewN ?_ _ | refine blk_drew ?_ | refine blk_alloc ?_ _)); exact BK216.out) hb); have n2_ := Aside0.mk (below_step (by repeat (first | (with_reducible first | exact HB.out | apply below_alloc | apply pw_below_drewN | apply below_drew1 | refine below_set ?_ GE215.out | refine below_set ?_ GE216.out) | exact HB.out)) hb); clear BK215; clear BK216; clear HB; have BK215 := n0_; have BK216 := n1_; have HB := n2_; clear n0_ n1_ n2_; (try clear hb); (try clear hb2); (try clear hk); (try clear hi); have hcz31_0 : w30.cell? ⟨gb215, 0, none⟩ = some (.slice A0_0 l0_0.length c0_0) := (blk_cell BK215.out 0).trans rfl; have hcz31_1 : w30.cell? ⟨gb215, 1, none⟩ = some (.slice A0_1 l0_1.length c0_1) := (blk_cell BK215.out 1).trans rfl; have hfz31_0 := blk_frozen BK215.out 0; have hfz31_1 := blk_frozen BK215.out 1; have p218 : 0 ≤ ((ji24) : Int) := of_decide_eq_true (by first | (with_reducible assumption) | assumption); have q218 : (ji24) < (l0_0.length : Int) := of_decide_eq_true (by first | (with_reducible assumption) | assumption); obtain ⟨ad218, e218, hx218_0⟩ := Kd.at_int HR0_0.out (ji24) p218 q218; cases e218; replace hx218_0 := (HB.out.cell (World.block_lt_of_cell? w _ hx218_0)).trans hx218_0; replace p218 := eq_true p218; replace q218 := eq_true q218)))
         go_meet
         case rel => exact ⟨_, (true), (by first | rfl | (simp; done) | (simp [*]; done)), H', ⟨by first | omega | exact Nat.le_refl _⟩, ⟨by (with_reducible repeat (first | refine blk_drewN ?_ _ | refine blk_drew ?_ | refine blk_alloc ?_ _)); exact BK215.out⟩, ⟨by (with_reducible repeat (first | refine blk_drewN ?_ _ | refine blk_drew ?_ | refine blk_alloc ?_ _)); exact BK216.out⟩, ⟨by repeat (first | (with_reducible first | exact HB.out | apply below_alloc | apply pw_below_drewN | apply below_drew1 | refine below_set ?_ GE215.out | refine below_set ?_ GE216.out) | exact HB.out)⟩⟩
        ·rw [if_neg c27] at H
         have c27b0 : decide ((rd l0_0 (ji24)) < a1) = false := decide_eq_false c27
         clear c27
         obtain ⟨ji32, hji32⟩ : ∃ j_ : Int, (wrap64 ((l0_0.length : Int) - 2)) = j_ := ⟨_, rfl⟩
         replace H : (if 0 ≤ (ji32) then (if (ji32) < (l0_0.length : Int) then (impl_pool.j0 k a1 a2 (l0_0.length : Int) (decide (a1 > (rd l0_0 (ji32)))) l0_0 l0_1) else (none)) else (none)) = some (r1, r2) := by first | (rw [hji32] at H; exact H) | (simp only [hji32] at H ⊢; exact H)
         (try rw [hji32] at A10)
         have hji32w : (IntKind.i64.wrap ((l0_0.length : Int) - 2)) = ji32 := (i64_w _).trans hji32
         by_cases c33 : 0 ≤ (ji32)
         ·rw [if_pos c33] at H
          have c33b0 : decide (0 ≤ (ji32)) = true := decide_eq_true c33
          clear c33
          by_cases c34 : (ji32) < (l0_0.length : Int)
          ·rw [if_pos c34] at H
           have c34b0 : decide ((ji32) < (l0_0.length : Int)) = true := decide_eq_true c34
           clear c34
           have H' := Aside0.mk H
           clear H
           have hnb35 := NB215_216.out
           have hnc35 := NB216_215.out
           have hcz36_0 : w7.cell? ⟨gb215, 0, none⟩ = some (.slice A0_0 l0_0.length c0_0) := (blk_cell BK215.out 0).trans rfl
           have hcz36_1 : w7.cell? ⟨gb215, 1, none⟩ = some (.slice A0_1 l0_1.length c0_1) := (blk_cell BK215.out 1).trans rfl
           have hfz36_0 := blk_frozen BK215.out 0
           have hfz36_1 := blk_frozen BK215.out 1
           go_wp2_with (first | (go_at_call 56; (with_reducible refine (impl_TensorOk.calls k _ _ l0_0 _ _ l0_1 true _ ?side1 ?side2 ?side3 ?side4 A10.out).mono ?_); (case side1 => repeat (first | exact (Kd.C_below HR0_0.out HB.out) | (with_reducible refine Kd.C_alloc ?_ _) | (with_reducible refine Kd.C_drewN ?_ _) | (with_reducible refine Kd.C_drew ?_))); (case side2 => exact HC0_0.out); (case side3 => repeat (first | exact (Kd.C_below HR0_1.out HB.out) | (with_reducible refine Kd.C_alloc ?_ _) | (with_reducible refine Kd.C_drewN ?_ _) | (with_reducible refine Kd.C_drew ?_))); (case side4 => exact HC0_1.out); rintro e w37 ⟨rfl, hb⟩; have n0_ := Aside0.mk (blk_below (g := gb215) (o := .cells #[.slice A0_0 l0_0.length c0_0, .slice A0_1 l0_1.length c0_1] 39 (0, 0)) (by (with_reducible repeat (first | refine blk_drewN ?_ _ | refine blk_drew ?_ | refine blk_alloc ?_ _)); exact BK215.out) hb); have n1_ := Aside0.mk (blk_below (g := gb216) (o := .cells #[.slice none 0 0, .slice none 0 0] 39 (0, 0)) (by (with_reducible repeat (first | refine blk_drewN ?_ _ | refine blk_drew ?_ | refine blk_alloc ?_ _)); exact BK216.out) hb); have n2_ := Aside0.mk (below_step (by repeat (first | (with_reducible first | exact HB.out | apply below_alloc | apply pw_below_drewN | apply below_drew1 | refine below_set ?_ GE215.out | refine below_set ?_ GE216.out) | exact HB.out)) hb); clear BK215; clear BK216; clear HB; have BK215 := n0_; have BK216 := n1_; have HB := n2_; clear n0_ n1_ n2_; (try clear hb); (try clear hb2); (try clear hk); (try clear hi); have hcz38_0 : w37.cell? ⟨gb215, 0, none⟩ = some (.slice A0_0 l0_0.length c0_0) := (blk_cell BK215.out 0).trans rfl; have hcz38_1 : w37.cell? ⟨gb215, 1, none⟩ = some (.slice A0_1 l0_1.length c0_1) := (blk_cell BK215.out 1).trans rfl; have hfz38_0 := blk_frozen BK215.out 0; have hfz38_1 := blk_frozen BK215.out 1; have p218 : 0 ≤ ((ji24) : Int) := of_decide_eq_true (by first | (with_reducible assumption) | assumption); have q218 : (ji24) < (l0_0.length : Int) := of_decide_eq_true (by first | (with_reducible assumption) | assumption); obtain ⟨ad218, e218, hx218_0⟩ := Kd.at_int HR0_0.out (ji24) p218 q218; cases e218; replace hx218_0 := (HB.out.cell (World.block_lt_of_cell? w _ hx218_0)).trans hx218_0; replace p218 := eq_true p218; replace q218 := eq_true q218; have p219 : 0 ≤ ((ji32) : Int) := of_decide_eq_true (by first | (with_reducible assumption) | assumption); have q219 : (ji32) < (l0_0.length : Int) := of_decide_eq_true (by first | (with_reducible assumption) | assumption); obtain ⟨ad219, e219, hx219_0⟩ := Kd.at_int HR0_0.out (ji32) p219 q219; obtain rfl : ad218 = ad219 := (by injection e219); replace hx219_0 := (HB.out.cell (World.block_lt_of_cell? w _ hx219_0)).trans hx219_0; replace p219 := eq_true p219; replace q219 := eq_true q219))
           repeat (go_quiet (first | (go_at_call 56; (with_reducible refine (impl_TensorOk.calls k _ _ l0_0 _ _ l0_1 true _ ?side1 ?side2 ?side3 ?side4 A10.out).mono ?_); (case side1 => repeat (first | exact (Kd.C_below HR0_0.out HB.out) | (with_reducible refine Kd.C_alloc ?_ _) | (with_reducible refine Kd.C_drewN ?_ _) | (with_reducible refine Kd.C_drew ?_))); (case side2 => exact HC0_0.out); (case side3 => repeat (first | exact (Kd.C_below HR0_1.out HB.out) | (with_reducible refine Kd.C_alloc ?_ _) | (with_reducible refine Kd.C_drewN ?_ _) | (with_reducible refine Kd.C_drew ?_))); (case side4 => exact HC0_1.out); rintro e w37 ⟨rfl, hb⟩; have n0_ := Aside0.mk (blk_below (g := gb215) (o := .cells #[.slice A0_0 l0_0.length c0_0, .slice A0_1 l0_1.length c0_1] 39 (0, 0)) (by (with_reducible repeat (first | refine blk_drewN ?_ _ | refine blk_drew ?_ | refine blk_alloc ?_ _)); exact BK215.out) hb); have n1_ := Aside0.mk (blk_below (g := gb216) (o := .cells #[.slice none 0 0, .slice none 0 0] 39 (0, 0)) (by (with_reducible repeat (first | refine blk_drewN ?_ _ | refine blk_drew ?_ | refine blk_alloc ?_ _)); exact BK216.out) hb); have n2_ := Aside0.mk (below_step (by repeat (first | (with_reducible first | exact HB.out | apply below_alloc | apply pw_below_drewN | apply below_drew1 | refine below_set ?_ GE215.out | refine below_set ?_ GE216.out) | exact HB.out)) hb); clear BK215; clear BK216; clear HB; have BK215 := n0_; have BK216 := n1_; have HB := n2_; clear n0_ n1_ n2_; (try clear hb); (try clear hb2); (try clear hk); (try clear hi); have hcz38_0 : w37.cell? ⟨gb215, 0, none⟩ = some (.slice A0_0 l0_0.length c0_0) := (blk_cell BK215.out 0).trans rfl; have hcz38_1 : w37.cell? ⟨gb215, 1, none⟩ = some (.slice A0_1 l0_1.length c0_1) := (blk_cell BK215.out 1).trans rfl; have hfz38_0 := blk_frozen BK215.out 0; have hfz38_1 := blk_frozen BK215.out 1; have p218 : 0 ≤ ((ji24) : Int) := of_decide_eq_true (by first | (with_reducible assumption) | assumption); have q218 : (ji24) < (l0_0.length : Int) := of_decide_eq_true (by first | (with_reducible assumption) | assumption); obtain ⟨ad218, e218, hx218_0⟩ := Kd.at_int HR0_0.out (ji24) p218 q218; cases e218; replace hx218_0 := (HB.out.cell (World.block_lt_of_cell? w _ hx218_0)).trans hx218_0; replace p218 := eq_true p218; replace q218 := eq_true q218; have p219 : 0 ≤ ((ji32) : Int) := of_decide_eq_true (by first | (with_reducible assumption) | assumption); have q219 : (ji32) < (l0_0.length : Int) := of_decide_eq_true (by first | (with_reducible assumption) | assumption); obtain ⟨ad219, e219, hx219_0⟩ := Kd.at_int HR0_0.out (ji32) p219 q219; obtain rfl : ad218 = ad219 := (by injection e219); replace hx219_0 := (HB.out.cell (World.block_lt_of_cell? w _ hx219_0)).trans hx219_0; replace p219 := eq_true p219; replace q219 := eq_true q219)); try go_wp2_with (first | (go_at_call 56; (with_reducible refine (impl_TensorOk.calls k _ _ l0_0 _ _ l0_1 true _ ?side1 ?side2 ?side3 ?side4 A10.out).mono ?_); (case side1 => repeat (first | exact (Kd.C_below HR0_0.out HB.out) | (with_reducible refine Kd.C_alloc ?_ _) | (with_reducible refine Kd.C_drewN ?_ _) | (with_reducible refine Kd.C_drew ?_))); (case side2 => exact HC0_0.out); (case side3 => repeat (first | exact (Kd.C_below HR0_1.out HB.out) | (with_reducible refine Kd.C_alloc ?_ _) | (with_reducible refine Kd.C_drewN ?_ _) | (with_reducible refine Kd.C_drew ?_))); (case side4 => exact HC0_1.out); rintro e w37 ⟨rfl, hb⟩; have n0_ := Aside0.mk (blk_below (g := gb215) (o := .cells #[.slice A0_0 l0_0.length c0_0, .slice A0_1 l0_1.length c0_1] 39 (0, 0)) (by (with_reducible repeat (first | refine blk_drewN ?_ _ | refine blk_drew ?_ | refine blk_alloc ?_ _)); exact BK215.out) hb); have n1_ := Aside0.mk (blk_below (g := gb216) (o := .cells #[.slice none 0 0, .slice none 0 0] 39 (0, 0)) (by (with_reducible repeat (first | refine blk_drewN ?_ _ | refine blk_drew ?_ | refine blk_alloc ?_ _)); exact BK216.out) hb); have n2_ := Aside0.mk (below_step (by repeat (first | (with_reducible first | exact HB.out | apply below_alloc | apply pw_below_drewN | apply below_drew1 | refine below_set ?_ GE215.out | refine below_set ?_ GE216.out) | exact HB.out)) hb); clear BK215; clear BK216; clear HB; have BK215 := n0_; have BK216 := n1_; have HB := n2_; clear n0_ n1_ n2_; (try clear hb); (try clear hb2); (try clear hk); (try clear hi); have hcz38_0 : w37.cell? ⟨gb215, 0, none⟩ = some (.slice A0_0 l0_0.length c0_0) := (blk_cell BK215.out 0).trans rfl; have hcz38_1 : w37.cell? ⟨gb215, 1, none⟩ = some (.slice A0_1 l0_1.length c0_1) := (blk_cell BK215.out 1).trans rfl; have hfz38_0 := blk_frozen BK215.out 0; have hfz38_1 := blk_frozen BK215.out 1; have p218 : 0 ≤ ((ji24) : Int) := of_decide_eq_true (by first | (with_reducible assumption) | assumption); have q218 : (ji24) < (l0_0.length : Int) := of_decide_eq_true (by first | (with_reducible assumption) | assumption); obtain ⟨ad218, e218, hx218_0⟩ := Kd.at_int HR0_0.out (ji24) p218 q218; cases e218; replace hx218_0 := (HB.out.cell (World.block_lt_of_cell? w _ hx218_0)).trans hx218_0; replace p218 := eq_true p218; replace q218 := eq_true q218; have p219 : 0 ≤ ((ji32) : Int) := of_decide_eq_true (by first | (with_reducible assumption) | assumption); have q219 : (ji32) < (l0_0.length : Int) := of_decide_eq_true (by first | (with_reducible assumption) | assumption); obtain ⟨ad219, e219, hx219_0⟩ := Kd.at_int HR0_0.out (ji32) p219 q219; obtain rfl : ad218 = ad219 := (by injection e219); replace hx219_0 := (HB.out.cell (World.block_lt_of_cell? w _ hx219_0)).trans hx219_0; replace p219 := eq_true p219; replace q219 := eq_true q219)))
           go_meet
           case rel => exact ⟨_, (decide (a1 > (rd l0_0 (ji32)))), (by first | rfl | (simp; done) | (simp only [← hji32] <;> (first | rfl | simp)) | (simp [*]; done)), H', ⟨by first | omega | exact Nat.le_refl _⟩, ⟨by (with_reducible repeat (first | refine blk_drewN ?_ _ | refine blk_drew ?_ | refine blk_alloc ?_ _)); exact BK215.out⟩, ⟨by (with_reducible repeat (first | refine blk_drewN ?_ _ | refine blk_drew ?_ | refine blk_alloc ?_ _)); exact BK216.out⟩, ⟨by repeat (first | (with_reducible first | exact HB.out | apply below_alloc | apply pw_below_drewN | apply below_drew1 | refine below_set ?_ GE215.out | refine below_set ?_ GE216.out) | exact HB.out)⟩⟩
          ·rw [if_neg c34] at H
           exact absurd H (by simp)
         ·rw [if_neg c33] at H
          exact absurd H (by simp)
       ·rw [if_neg c26] at H
        exact absurd H (by simp)
      ·rw [if_neg c25] at H
       exact absurd H (by simp)
  ·replace c11 := Bool.eq_false_iff.mpr c11
   subst c11
   have H1 : (impl_pool.j0 k a1 a2 (l0_0.length : Int) true l0_0 l0_1) = some (r1, r2) := by rw [if_neg (show ¬ (false = true) by decide)] at H; exact H
   clear H
   have H := H1
   clear H1
   have H' := Aside0.mk H
   clear H
   have hnb39 := NB215_216.out
   have hnc39 := NB216_215.out
   have hcz40_0 : w7.cell? ⟨gb215, 0, none⟩ = some (.slice A0_0 l0_0.length c0_0) := (blk_cell BK215.out 0).trans rfl
   have hcz40_1 : w7.cell? ⟨gb215, 1, none⟩ = some (.slice A0_1 l0_1.length c0_1) := (blk_cell BK215.out 1).trans rfl
   have hfz40_0 := blk_frozen BK215.out 0
   have hfz40_1 := blk_frozen BK215.out 1
   go_wp2_with (first | (go_at_call 56; (with_reducible refine (impl_TensorOk.calls k _ _ l0_0 _ _ l0_1 false _ ?side1 ?side2 ?side3 ?side4 A10.out).mono ?_); (case side1 => repeat (first | exact (Kd.C_below HR0_0.out HB.out) | (with_reducible refine Kd.C_alloc ?_ _) | (with_reducible refine Kd.C_drewN ?_ _) | (with_reducible refine Kd.C_drew ?_))); (case side2 => exact HC0_0.out); (case side3 => repeat (first | exact (Kd.C_below HR0_1.out HB.out) | (with_reducible refine Kd.C_alloc ?_ _) | (with_reducible refine Kd.C_drewN ?_ _) | (with_reducible refine Kd.C_drew ?_))); (case side4 => exact HC0_1.out); rintro e w41 ⟨rfl, hb⟩; have n0_ := Aside0.mk (blk_below (g := gb215) (o := .cells #[.slice A0_0 l0_0.length c0_0, .slice A0_1 l0_1.length c0_1] 39 (0, 0)) (by (with_reducible repeat (first | refine blk_drewN ?_ _ | refine blk_drew ?_ | refine blk_alloc ?_ _)); exact BK215.out) hb); have n1_ := Aside0.mk (blk_below (g := gb216) (o := .cells #[.slice none 0 0, .slice none 0 0] 39 (0, 0)) (by (with_reducible repeat (first | refine blk_drewN ?_ _ | refine blk_drew ?_ | refine blk_alloc ?_ _)); exact BK216.out) hb); have n2_ := Aside0.mk (below_step (by repeat (first | (with_reducible first | exact HB.out | apply below_alloc | apply pw_below_drewN | apply below_drew1 | refine below_set ?_ GE215.out | refine below_set ?_ GE216.out) | exact HB.out)) hb); clear BK215; clear BK216; clear HB; have BK215 := n0_; have BK216 := n1_; have HB := n2_; clear n0_ n1_ n2_; (try clear hb); (try clear hb2); (try clear hk); (try clear hi)))
   repeat (go_quiet (first | (go_at_call 56; (with_reducible refine (impl_TensorOk.calls k _ _ l0_0 _ _ l0_1 false _ ?side1 ?side2 ?side3 ?side4 A10.out).mono ?_); (case side1 => repeat (first | exact (Kd.C_below HR0_0.out HB.out) | (with_reducible refine Kd.C_alloc ?_ _) | (with_reducible refine Kd.C_drewN ?_ _) | (with_reducible refine Kd.C_drew ?_))); (case side2 => exact HC0_0.out); (case side3 => repeat (first | exact (Kd.C_below HR0_1.out HB.out) | (with_reducible refine Kd.C_alloc ?_ _) | (with_reducible refine Kd.C_drewN ?_ _) | (with_reducible refine Kd.C_drew ?_))); (case side4 => exact HC0_1.out); rintro e w41 ⟨rfl, hb⟩; have n0_ := Aside0.mk (blk_below (g := gb215) (o := .cells #[.slice A0_0 l0_0.length c0_0, .slice A0_1 l0_1.length c0_1] 39 (0, 0)) (by (with_reducible repeat (first | refine blk_drewN ?_ _ | refine blk_drew ?_ | refine blk_alloc ?_ _)); exact BK215.out) hb); have n1_ := Aside0.mk (blk_below (g := gb216) (o := .cells #[.slice none 0 0, .slice none 0 0] 39 (0, 0)) (by (with_reducible repeat (first | refine blk_drewN ?_ _ | refine blk_drew ?_ | refine blk_alloc ?_ _)); exact BK216.out) hb); have n2_ := Aside0.mk (below_step (by repeat (first | (with_reducible first | exact HB.out | apply below_alloc | apply pw_below_drewN | apply below_drew1 | refine below_set ?_ GE215.out | refine below_set ?_ GE216.out) | exact HB.out)) hb); clear BK215; clear BK216; clear HB; have BK215 := n0_; have BK216 := n1_; have HB := n2_; clear n0_ n1_ n2_; (try clear hb); (try clear hb2); (try clear hk); (try clear hi))); try go_wp2_with (first | (go_at_call 56; (with_reducible refine (impl_TensorOk.calls k _ _ l0_0 _ _ l0_1 false _ ?side1 ?side2 ?side3 ?side4 A10.out).mono ?_); (case side1 => repeat (first | exact (Kd.C_below HR0_0.out HB.out) | (with_reducible refine Kd.C_alloc ?_ _) | (with_reducible refine Kd.C_drewN ?_ _) | (with_reducible refine Kd.C_drew ?_))); (case side2 => exact HC0_0.out); (case side3 => repeat (first | exact (Kd.C_below HR0_1.out HB.out) | (with_reducible refine Kd.C_alloc ?_ _) | (with_reducible refine Kd.C_drewN ?_ _) | (with_reducible refine Kd.C_drew ?_))); (case side4 => exact HC0_1.out); rintro e w41 ⟨rfl, hb⟩; have n0_ := Aside0.mk (blk_below (g := gb215) (o := .cells #[.slice A0_0 l0_0.length c0_0, .slice A0_1 l0_1.length c0_1] 39 (0, 0)) (by (with_reducible repeat (first | refine blk_drewN ?_ _ | refine blk_drew ?_ | refine blk_alloc ?_ _)); exact BK215.out) hb); have n1_ := Aside0.mk (blk_below (g := gb216) (o := .cells #[.slice none 0 0, .slice none 0 0] 39 (0, 0)) (by (with_reducible repeat (first | refine blk_drewN ?_ _ | refine blk_drew ?_ | refine blk_alloc ?_ _)); exact BK216.out) hb); have n2_ := Aside0.mk (below_step (by repeat (first | (with_reducible first | exact HB.out | apply below_alloc | apply pw_below_drewN | apply below_drew1 | refine below_set ?_ GE215.out | refine below_set ?_ GE216.out) | exact HB.out)) hb); clear BK215; clear BK216; clear HB; have BK215 := n0_; have BK216 := n1_; have HB := n2_; clear n0_ n1_ n2_; (try clear hb); (try clear hb2); (try clear hk); (try clear hi))))
   go_meet
   case rel => exact ⟨_, (true), (by first | rfl | (simp; done) | (simp [*]; done)), H', ⟨by first | omega | exact Nat.le_refl _⟩, ⟨by (with_reducible repeat (first | refine blk_drewN ?_ _ | refine blk_drew ?_ | refine blk_alloc ?_ _)); exact BK215.out⟩, ⟨by (with_reducible repeat (first | refine blk_drewN ?_ _ | refine blk_drew ?_ | refine blk_alloc ?_ _)); exact BK216.out⟩, ⟨by repeat (first | (with_reducible first | exact HB.out | apply below_alloc | apply pw_below_drewN | apply below_drew1 | refine below_set ?_ GE215.out | refine below_set ?_ GE216.out) | exact HB.out)⟩⟩
 case rest =>
  clear HC5
  try clear c1
  try clear c2
  try clear p2
  try clear q2
  try clear hx2
  try clear c3
  try clear c6
  try clear p6
  try clear c8
  try clear c11
  try clear c12
  try clear c12b0
  try clear c12b1
  try clear c13
  try clear c16
  try clear c16b0
  try clear c17
  try clear c20
  try clear c20b0
  try clear c21
  try clear p21
  try clear q21
  try clear hx21
  try clear c25
  try clear c25b0
  try clear c26
  try clear c26b0
  try clear c27
  try clear c27b0
  try clear c28
  try clear c33
  try clear c33b0
  try clear c34
  try clear c34b0
  try clear c35
  try clear c39
  try clear hcz14_0
  try clear hcz14_1
  try clear hcz18_0
  try clear hcz18_1
  try clear hcz22_0
  try clear hcz22_1
  try clear hcz29_0
  try clear hcz29_1
  try clear hcz31_0
  try clear hcz31_1
  try clear hcz36_0
  try clear hcz36_1
  try clear hcz38_0
  try clear hcz38_1
  try clear hcz40_0
  try clear hcz40_1
  try clear hcz9_0
  try clear hcz9_1
  try clear hfz14_0
  try clear hfz14_1
  try clear hfz18_0
  try clear hfz18_1
  try clear hfz22_0
  try clear hfz22_1
  try clear hfz29_0
  try clear hfz29_1
  try clear hfz31_0
  try clear hfz31_1
  try clear hfz36_0
  try clear hfz36_1
  try clear hfz38_0
  try clear hfz38_1
  try clear hfz40_0
  try clear hfz40_1
  try clear hfz9_0
  try clear hfz9_1
  try clear hx218_0
  try clear hx219_0
  try clear p218
  try clear p219
  try clear q218
  try clear q219
  obtain ⟨kq, x59_4, rfl, HA, HJ4, BK215, BK216, HB⟩ := hcut
  cases kq with
  | zero => exact absurd HA.out (by simp [impl_pool.j0])
  | succ kj4 =>
   have H := HA.out
   clear HA
   simp only [impl_pool.j0] at H
   by_cases c42 : x59_4 = true
   ·subst c42
    have H1 : (some (([] : List Int), ([] : List Int))) = some (r1, r2) := by rw [if_pos rfl] at H; exact H
    clear H
    have H := H1
    clear H1
    simp only [Option.some.injEq, Prod.mk.injEq] at H
    obtain ⟨rfl, rfl⟩ := H
    have hnb43 := NB216_215.out
    have hnc43 := NB215_216.out
    have hcz44_0 : wc.cell? ⟨gb216, 0, none⟩ = some (.slice none 0 0) := (blk_cell BK216.out 0).trans rfl
    have hcz44_1 : wc.cell? ⟨gb216, 1, none⟩ = some (.slice none 0 0) := (blk_cell BK216.out 1).trans rfl
    have hfz44_0 := blk_frozen BK216.out 0
    have hfz44_1 := blk_frozen BK216.out 1
    go_wp2
    repeat (go_quiet (fail); try go_wp2)
    refine bodyPost_ret (results_cell_row rfl _ _ gb216 39 #[.slice none 0 0, .slice none 0 0] (0, 0) _ rfl (by (with_reducible repeat (first | refine blk_drewN ?_ _ | refine blk_drew ?_ | refine blk_alloc ?_ _)); refine blk_put (cs := #[.slice none 0 0, .slice none 0 0]) ?_ 1 _ rfl; (with_reducible repeat (first | refine blk_drewN ?_ _ | refine blk_drew ?_ | refine blk_alloc ?_ _)); refine blk_put (cs := #[.slice none 0 0, .slice none 0 0]) ?_ 0 _ rfl; (with_reducible repeat (first | refine blk_drewN ?_ _ | refine blk_drew ?_ | refine blk_alloc ?_ _)); exact BK216.out) Try.underlying39 rfl (by kernel_rfl)) rfl ?_
    exact ⟨_, _, by first | rfl | (simp [errW_none, errW_some] <;> rfl) | (simp [*, errW_none, errW_some] <;> rfl), by first | exact Kd.R_nil _ _ _ _ _ | exact Kd.N_nil _ _ _ _ _ | exact Kd.V_nil _ _ _ _ _ | exact Kd.Q_nil _ _ _ _ _ | exact Kd.S_nil _ _ _ _ _, by first | exact Kd.R_nil _ _ _ _ _ | exact Kd.N_nil _ _ _ _ _ | exact Kd.V_nil _ _ _ _ _ | exact Kd.Q_nil _ _ _ _ _ | exact Kd.S_nil _ _ _ _ _, by repeat (first | (with_reducible first | exact HB.out | apply below_alloc | apply pw_below_drewN | apply below_drew1 | refine below_set ?_ GE215.out | refine below_set ?_ GE216.out) | exact HB.out)⟩
   ·replace c42 := Bool.eq_false_iff.mpr c42
    subst c42
    have H1 : (if 0 ≤ (wrap64 ((l0_0.length : Int) - 2)) then (if (wrap64 ((l0_0.length : Int) - 2)) < (l0_0.length : Int) then (if 0 ≤ (wrap64 ((l0_0.length : Int) - 1)) then (if (wrap64 ((l0_0.length : Int) - 1)) < (l0_0.length : Int) then (if a2 = 0 then (none) else (if (wrap64 ((l0_0.length : Int) - 2)) ≤ (l0_0.length : Int) then ((slices_Clone_int_int.f (l0_0.take ((wrap64 ((l0_0.length : Int) - 2)) : Int).toNat)).bind fun t223 => ((some (([wrap64 ((wrap64 (Int.tdiv (wrap64 ((rd l0_0 (wrap64 ((l0_0.length : Int) - 2))) - a1)) a2)) + 1), wrap64 ((wrap64 (Int.tdiv (wrap64 ((rd l0_0 (wrap64 ((l0_0.length : Int) - 1))) - a1)) a2)) + 1)] : List Int) : List Int)).bind fun y226 => (if t223.length + y226.length < 17592186044416 then ((impl_product.f kj4 (l0_0.take ((wrap64 ((l0_0.length : Int) - 2)) : Int).toNat)).bind fun t234 => (impl_pool.l0 kj4 a1 a2 (rd l0_0 (wrap64 ((l0_0.length : Int) - 2))) (rd l0_0 (wrap64 ((l0_0.length : Int) - 1))) (wrap64 ((wrap64 (Int.tdiv (wrap64 ((rd l0_0 (wrap64 ((l0_0.length : Int) - 2))) - a1)) a2)) + 1)) (wrap64 ((wrap64 (Int.tdiv (wrap64 ((rd l0_0 (wrap64 ((l0_0.length : Int) - 1))) - a1)) a2)) + 1)) t234 0 l0_0 l0_1 (t223 ++ y226) ([] : List Int))) else (none)))) else (none))) else (none)) else (none)) else (none)) else (none)) = some (r1, r2) := by rw [if_neg (show ¬ (false = true) by decide)] at H; exact H
    clear H
    have H := H1
    clear H1
    obtain ⟨ji45, hji45⟩ : ∃ j_ : Int, (wrap64 ((l0_0.length : Int) - 2)) = j_ := ⟨_, rfl⟩
    replace H : (if 0 ≤ (ji45) then (if (ji45) < (l0_0.length : Int) then (if 0 ≤ (wrap64 ((l0_0.length : Int) - 1)) then (if (wrap64 ((l0_0.length : Int) - 1)) < (l0_0.length : Int) then (if a2 = 0 then (none) else (if (ji45) ≤ (l0_0.length : Int) then ((slices_Clone_int_int.f (l0_0.take ((ji45) : Int).toNat)).bind fun t223 => ((some (([wrap64 ((wrap64 (Int.tdiv (wrap64 ((rd l0_0 (ji45)) - a1)) a2)) + 1), wrap64 ((wrap64 (Int.tdiv (wrap64 ((rd l0_0 (wrap64 ((l0_0.length : Int) - 1))) - a1)) a2)) + 1)] : List Int) : List Int)).bind fun y226 => (if t223.length + y226.length < 17592186044416 then ((impl_product.f kj4 (l0_0.take ((ji45) : Int).toNat)).bind fun t234 => (impl_pool.l0 kj4 a1 a2 (rd l0_0 (ji45)) (rd l0_0 (wrap64 ((l0_0.length : Int) - 1))) (wrap64 ((wrap64 (Int.tdiv (wrap64 ((rd l0_0 (ji45)) - a1)) a2)) + 1)) (wrap64 ((wrap64 (Int.tdiv (wrap64 ((rd l0_0 (wrap64 ((l0_0.length : Int) - 1))) - a1)) a2)) + 1)) t234 0 l0_0 l0_1 (t223 ++ y226) ([] : List Int))) else (none)))) else (none))) else (none)) else (none)) else (none)) else (none)) = some (r1, r2) := by first | (rw [hji45] at H; exact H) | (simp only [hji45] at H ⊢; exact H)
    have hji45w : (IntKind.i64.wrap ((l0_0.length : Int) - 2)) = ji45 := (i64_w _).trans hji45
    by_cases c46 : 0 ≤ (ji45)
    ·rw [if_pos c46] at H
     have c46b0 : decide (0 ≤ (ji45)) = true := decide_eq_true c46
     clear c46
     by_cases c47 : (ji45) < (l0_0.length : Int)
     ·rw [if_pos c47] at H
      have c47b0 : decide ((ji45) < (l0_0.length : Int)) = true := decide_eq_true c47
      clear c47
      obtain ⟨ji48, hji48⟩ : ∃ j_ : Int, (wrap64 ((l0_0.length : Int) - 1)) = j_ := ⟨_, rfl⟩
      replace H : (if 0 ≤ (ji48) then (if (ji48) < (l0_0.length : Int) then (if a2 = 0 then (none) else (if (ji45) ≤ (l0_0.length : Int) then ((slices_Clone_int_int.f (l0_0.take ((ji45) : Int).toNat)).bind fun t223 => ((some (([wrap64 ((wrap64 (Int.tdiv (wrap64 ((rd l0_0 (ji45)) - a1)) a2)) + 1), wrap64 ((wrap64 (Int.tdiv (wrap64 ((rd l0_0 (ji48)) - a1)) a2)) + 1)] : List Int) : List Int)).bind fun y226 => (if t223.length + y226.length < 17592186044416 then ((impl_product.f kj4 (l0_0.take ((ji45) : Int).toNat)).bind fun t234 => (impl_pool.l0 kj4 a1 a2 (rd l0_0 (ji45)) (rd l0_0 (ji48)) (wrap64 ((wrap64 (Int.tdiv (wrap64 ((rd l0_0 (ji45)) - a1)) a2)) + 1)) (wrap64 ((wrap64 (Int.tdiv (wrap64 ((rd l0_0 (ji48)) - a1)) a2)) + 1)) t234 0 l0_0 l0_1 (t223 ++ y226) ([] : List Int))) else (none)))) else (none))) else (none)) else (none)) = some (r1, r2) := by first | (rw [hji48] at H; exact H) | (simp only [hji48] at H ⊢; exact H)
      have hji48w : (IntKind.i64.wrap ((l0_0.length : Int) - 1)) = ji48 := (i64_w _).trans hji48
      by_cases c49 : 0 ≤ (ji48)
      ·rw [if_pos c49] at H
       have c49b0 : decide (0 ≤ (ji48)) = true := decide_eq_true c49
       clear c49
       by_cases c50 : (ji48) < (l0_0.length : Int)
       ·rw [if_pos c50] at H
        have c50b0 : decide ((ji48) < (l0_0.length : Int)) = true := decide_eq_true c50
        clear c50
        by_cases c51 : a2 = 0
        ·rw [if_pos c51] at H
         exact absurd H (by simp)
        ·rw [if_neg c51] at H
         have c51b0 : (a2 == 0) = false := beq_eq_false_iff_ne.mpr c51
         have c51b1 : (a2 != 0) = true := bne_iff_ne.mpr c51
         have c52b0 := eq_true (of_decide_eq_true (by first | (with_reducible assumption) | assumption) : 0 ≤ (ji45))
         by_cases c53 : (ji45) ≤ (l0_0.length : Int)
         ·rw [if_pos c53] at H
          have c53b0 := eq_true c53
          have c53b1 : decide ((ji45) ≤ (l0_0.length : Int)) = true := decide_eq_true c53
          clear c53
          replace H := Option.bind_eq_some_iff.mp H
          obtain ⟨t223, A540, H⟩ := H
          replace H : ((some (([wrap64 ((wrap64 (Int.tdiv (wrap64 ((rd l0_0 (ji45)) - a1)) a2)) + 1), wrap64 ((wrap64 (Int.tdiv (wrap64 ((rd l0_0 (ji48)) - a1)) a2)) + 1)] : List Int) : List Int)).bind fun y226 => (if t223.length + y226.length < 17592186044416 then ((impl_product.f kj4 (l0_0.take ((ji45) : Int).toNat)).bind fun t234 => (impl_pool.l0 kj4 a1 a2 (rd l0_0 (ji45)) (rd l0_0 (ji48)) (wrap64 ((wrap64 (Int.tdiv (wrap64 ((rd l0_0 (ji45)) - a1)) a2)) + 1)) (wrap64 ((wrap64 (Int.tdiv (wrap64 ((rd l0_0 (ji48)) - a1)) a2)) + 1)) t234 0 l0_0 l0_1 (t223 ++ y226) ([] : List Int))) else (none))) = some (r1, r2) := H
          have A54 := Aside0.mk A540
          clear A540
          obtain ⟨y226, hy226⟩ : ∃ y_ : List Int, y_ = (([wrap64 ((wrap64 (Int.tdiv (wrap64 ((rd l0_0 (ji45)) - a1)) a2)) + 1), wrap64 ((wrap64 (Int.tdiv (wrap64 ((rd l0_0 (ji48)) - a1)) a2)) + 1)] : List Int)) := ⟨_, rfl⟩
          replace H : (if t223.length + y226.length < 17592186044416 then ((impl_product.f kj4 (l0_0.take ((ji45) : Int).toNat)).bind fun t234 => (impl_pool.l0 kj4 a1 a2 (rd l0_0 (ji45)) (rd l0_0 (ji48)) (wrap64 ((wrap64 (Int.tdiv (wrap64 ((rd l0_0 (ji45)) - a1)) a2)) + 1)) (wrap64 ((wrap64 (Int.tdiv (wrap64 ((rd l0_0 (ji48)) - a1)) a2)) + 1)) t234 0 l0_0 l0_1 (t223 ++ y226) ([] : List Int))) else (none)) = some (r1, r2) := by first | (rw [hy226]; with_reducible exact H) | (have H2_ := (Option.bind_some _ _).symm.trans H; rw [hy226]; with_reducible exact H2_) | (have H2_ := (Option.bind_some _ _).symm.trans H; with_reducible exact H2_) | with_reducible exact H | (rw [hy226]; exact H) | exact H
          have Ny226 := Aside0.mk hy226
          clear hy226
          by_cases c55 : t223.length + y226.length < 17592186044416
          ·rw [if_pos c55] at H
           have LMc55 := Aside0.mk c55
           clear c55
           obtain ⟨y229, hy229⟩ : ∃ y_ : List Int, y_ = (t223 ++ y226) := ⟨_, rfl⟩
           replace H : ((impl_product.f kj4 (l0_0.take ((ji45) : Int).toNat)).bind fun t234 => (impl_pool.l0 kj4 a1 a2 (rd l0_0 (ji45)) (rd l0_0 (ji48)) (wrap64 ((wrap64 (Int.tdiv (wrap64 ((rd l0_0 (ji45)) - a1)) a2)) + 1)) (wrap64 ((wrap64 (Int.tdiv (wrap64 ((rd l0_0 (ji48)) - a1)) a2)) + 1)) t234 0 l0_0 l0_1 y229 ([] : List Int))) = some (r1, r2) := by first | (rw [hy229]; with_reducible exact H) | (have H2_ := (Option.bind_some _ _).symm.trans H; rw [hy229]; with_reducible exact H2_) | (have H2_ := (Option.bind_some _ _).symm.trans H; with_reducible exact H2_) | with_reducible exact H | (rw [hy229]; exact H) | exact H
           have Ny229 := Aside0.mk hy229
           clear hy229
           have c56b0 := eq_true (of_decide_eq_true (by first | (with_reducible assumption) | assumption) : 0 ≤ (ji45))
           have c57b0 := eq_true (of_decide_eq_true (by first | (with_reducible assumption) | assumption) : (ji45) ≤ (l0_0.length : Int))
           replace H := Option.bind_eq_some_iff.mp H
           obtain ⟨t234, A580, H⟩ := H
           replace H : (impl_pool.l0 kj4 a1 a2 (rd l0_0 (ji45)) (rd l0_0 (ji48)) (wrap64 ((wrap64 (Int.tdiv (wrap64 ((rd l0_0 (ji45)) - a1)) a2)) + 1)) (wrap64 ((wrap64 (Int.tdiv (wrap64 ((rd l0_0 (ji48)) - a1)) a2)) + 1)) t234 0 l0_0 l0_1 y229 ([] : List Int)) = some (r1, r2) := H
           have A58 := Aside0.mk A580
           clear A580
           have H' := Aside0.mk H
           clear H
           have hnb59 := NB215_216.out
           have hnc59 := NB216_215.out
           have hcz60_0 : wc.cell? ⟨gb215, 0, none⟩ = some (.slice A0_0 l0_0.length c0_0) := (blk_cell BK215.out 0).trans rfl
           have hcz60_1 : wc.cell? ⟨gb215, 1, none⟩ = some (.slice A0_1 l0_1.length c0_1) := (blk_cell BK215.out 1).trans rfl
           have hfz60_0 := blk_frozen BK215.out 0
           have hfz60_1 := blk_frozen BK215.out 1
           have p220 : 0 ≤ ((ji45) : Int) := of_decide_eq_true (by first | (with_reducible assumption) | assumption)
           have q220 : (ji45) < (l0_0.length : Int) := of_decide_eq_true (by first | (with_reducible assumption) | assumption)
           obtain ⟨ad220, e220, hx220_0⟩ := Kd.at_int HR0_0.out (ji45) p220 q220
           cases e220
           replace hx220_0 := (HB.out.cell (World.block_lt_of_cell? w _ hx220_0)).trans hx220_0
           replace p220 := eq_true p220
           replace q220 := eq_true q220
           have p221 : 0 ≤ ((ji48) : Int) := of_decide_eq_true (by first | (with_reducible assumption) | assumption)
           have q221 : (ji48) < (l0_0.length : Int) := of_decide_eq_true (by first | (with_reducible assumption) | assumption)
           obtain ⟨ad221, e221, hx221_0⟩ := Kd.at_int HR0_0.out (ji48) p221 q221
           obtain rfl : ad220 = ad221 := (by injection e221)
           replace hx221_0 := (HB.out.cell (World.block_lt_of_cell? w _ hx221_0)).trans hx221_0
           replace p221 := eq_true p221
           replace q221 := eq_true q221
           obtain ⟨i061, hi061, _, hsz61, _⟩ := info_parts info3
           obtain ⟨hcut61, hA61, hC61⟩ := print_take_of (P := Try.prog) (Value.int .i64) 0 22 3 .i64 Try.underlying22 hi061 hsz61 (some ad220) c0_0 l0_0 (ji45) (of_decide_eq_true (by first | (with_reducible assumption) | assumption)) (of_decide_eq_true (by first | (with_reducible assumption) | assumption)) HC0_0.out
           have HR222 := Aside0.mk (Kd.C_of_reads (h1 := fun _ => rfl) (hA61 _ (Kd.reads_of_C HR0_0.out)))
           have HC222 := Aside0.mk hC61
           clear hA61 hC61 hi061 hsz61
           obtain ⟨yrow61, hyrow61⟩ : ∃ y_ : List Int, y_ = (l0_0.take ((ji45) : Int).toNat) := ⟨_, rfl⟩
           rw [← hyrow61] at hcut61 HR222
           (try rw [← hyrow61] at HC222)
           (try rw [← hyrow61] at H')
           (try rw [← hyrow61] at H)
           (try rw [← hyrow61] at A54)
           (try rw [← hyrow61] at A58)
           have Nyrow61 := Aside0.mk hyrow61
           clear hyrow61
           go_wp2_with (first | (go_at_call 80; (with_reducible refine (slices_Clone_int_int.calls _ _ yrow61 t223 _ ?side1 ?side2 A54.out).mono ?_); (case side1 => repeat (first | exact (Kd.C_below HR222.out HB.out) | (with_reducible refine Kd.C_alloc ?_ _) | (with_reducible refine Kd.C_drewN ?_ _) | (with_reducible refine Kd.C_drew ?_))); (case side2 => exact HC222.out); rintro e w62 ⟨v224, rfl, ho0, hb⟩; have n0_ := Aside0.mk (Kd.R_lower ho0 (below_size (by repeat (first | (with_reducible first | exact HB.out | apply below_alloc | apply pw_below_drewN | apply below_drew1 | refine below_set ?_ GE215.out | refine below_set ?_ GE216.out) | exact HB.out)))); have n1_ := Aside0.mk (blk_below (g := gb215) (o := .cells #[.slice (some ad220) l0_0.length c0_0, .slice A0_1 l0_1.length c0_1] 39 (0, 0)) (by (with_reducible repeat (first | refine blk_drewN ?_ _ | refine blk_drew ?_ | refine blk_alloc ?_ _)); exact BK215.out) hb); have n2_ := Aside0.mk (blk_below (g := gb216) (o := .cells #[.slice none 0 0, .slice none 0 0] 39 (0, 0)) (by (with_reducible repeat (first | refine blk_drewN ?_ _ | refine blk_drew ?_ | refine blk_alloc ?_ _)); exact BK216.out) hb); have n3_ := Aside0.mk (below_step (by repeat (first | (with_reducible first | exact HB.out | apply below_alloc | apply pw_below_drewN | apply below_drew1 | refine below_set ?_ GE215.out | refine below_set ?_ GE216.out) | exact HB.out)) hb); clear BK215; clear BK216; clear HB; have HO225 := n0_; have BK215 := n1_; have BK216 := n2_; have HB := n3_; clear n0_ n1_ n2_ n3_; (try clear hb); (try clear hb2); (try clear hk); (try clear hi); (try clear ho0)) | ((with_reducible refine gate_dst (N := 93) rfl ?_); refine Kd.R_lit (Kd.int .i64) _ 3 ?hg (N := 93) ?hd (xs := ([wrap64 ((wrap64 (Int.tdiv (wrap64 ((rd l0_0 (ji45)) - a1)) a2)) + 1), wrap64 ((wrap64 (Int.tdiv (wrap64 ((rd l0_0 (ji48)) - a1)) a2)) + 1)] : List Int)) (inner := [.int .i64 (wrap64 ((wrap64 (Int.tdiv (wrap64 ((rd l0_0 (ji45)) - a1)) a2)) + 1)), .int .i64 (wrap64 ((wrap64 (Int.tdiv (wrap64 ((rd l0_0 (ji48)) - a1)) a2)) + 1))]) (ok := fun _ => True) (okp := fun _ => True) ?hr ?hp (fun _ hk => hk) trivial (Below.refl _ _) (Nat.le_refl _) (by simp) ?_; (case hd => rfl); (case hg => rfl); (case hr => first | (go_simp; done) | (go_simp; rfl)); (case hp => exact (Reps.one (show Kd.M (Kd.int .i64) _ _ _ (wrap64 ((wrap64 (Int.tdiv (wrap64 ((rd l0_0 (ji45)) - a1)) a2)) + 1)) [.int .i64 (wrap64 ((wrap64 (Int.tdiv (wrap64 ((rd l0_0 (ji45)) - a1)) a2)) + 1))] from rfl) (Reps.one (show Kd.M (Kd.int .i64) _ _ _ (wrap64 ((wrap64 (Int.tdiv (wrap64 ((rd l0_0 (ji48)) - a1)) a2)) + 1)) [.int .i64 (wrap64 ((wrap64 (Int.tdiv (wrap64 ((rd l0_0 (ji48)) - a1)) a2)) + 1))] from rfl) (Reps.none _ _)))); intro v227 w63 ho64 hb hg_ hnew_; clear hg_ hnew_; (first | rw [← Ny226.out] at ho64 | (simp only [Int.reduceToNat] at ho64; rw [← Ny226.out] at ho64)); have n0_ := Aside0.mk (Kd.R_elder' (by (with_reducible repeat (first | apply Kd.R_alloc | apply Kd.R_drewN | apply Kd.R_drew)); exact HO225.out) (Kd.R_base ho64) hb); have n1_ := Aside0.mk (Kd.R_lower (Kd.R_new' ho64 (Kd.R_lt (by (with_reducible repeat (first | apply Kd.R_alloc | apply Kd.R_drewN | apply Kd.R_drew)); exact HO225.out))) (below_size (by repeat (first | (with_reducible first | exact HB.out | apply below_alloc | apply pw_below_drewN | apply below_drew1 | refine below_set ?_ GE215.out | refine below_set ?_ GE216.out) | exact HB.out)))); have n2_ := Aside0.mk (blk_below (g := gb215) (o := .cells #[.slice (some ad220) l0_0.length c0_0, .slice A0_1 l0_1.length c0_1] 39 (0, 0)) (by (with_reducible repeat (first | refine blk_drewN ?_ _ | refine blk_drew ?_ | refine blk_alloc ?_ _)); exact BK215.out) hb); have n3_ := Aside0.mk (blk_below (g := gb216) (o := .cells #[.slice none 0 0, .slice none 0 0] 39 (0, 0)) (by (with_reducible repeat (first | refine blk_drewN ?_ _ | refine blk_drew ?_ | refine blk_alloc ?_ _)); exact BK216.out) hb); have n4_ := Aside0.mk (below_step (by repeat (first | (with_reducible first | exact HB.out | apply below_alloc | apply pw_below_drewN | apply below_drew1 | refine below_set ?_ GE215.out | refine below_set ?_ GE216.out) | exact HB.out)) hb); clear HO225; clear BK215; clear BK216; clear HB; have HO225 := n0_; have HO228 := n1_; have BK215 := n2_; have BK216 := n3_; have HB := n4_; clear n0_ n1_ n2_ n3_ n4_; clear hb ho64; obtain ⟨Ao66, co66, eo66⟩ := Kd.R_slice HO228.out; subst eo66) | ((with_reducible refine gate_builtin (b := .append) (xs := #[.tmp 90, .tmp 93]) rfl ?_); at_builtin; refine Kd.R_append_rows (Kd.int .i64) (w0 := w) w.heap.size rfl (.tmp 90) (.tmp 93) 22 3 (.int .i64 0) 8 rfl Try.underlying22 info3 rfl (by decide) (by omega) v224 t223 y226 _ _ _ (fun k_ => some k_ ≠ (.slice Ao66 y226.length co66 : Value).ownBlock) (fun _ => False) rfl rfl ?aO ?aR (fun _ _ h => h) (fun _ h => h.elim) ?aF ?aB ?aS ?aL ?_; (case aR => repeat (first | exact (Kd.R_reads' HO228.out).2.2 | (with_reducible refine Kd.C_alloc ?_ _) | (with_reducible refine Kd.C_drewN ?_ _) | (with_reducible refine Kd.C_drew ?_))); (case aB => exact (by repeat (first | (with_reducible first | exact HB.out | apply below_alloc | apply pw_below_drewN | apply below_drew1 | refine below_set ?_ GE215.out | refine below_set ?_ GE216.out) | exact HB.out))); (case aF => exact (fun k_ hk => Kd.fresh' (Kd.R_lt (by (with_reducible repeat (first | apply Kd.R_alloc | apply Kd.R_drewN | apply Kd.R_drew)); exact HO228.out)) k_ hk)); (case aO => exact (by (with_reducible repeat (first | apply Kd.R_alloc | apply Kd.R_drewN | apply Kd.R_drew)); exact Kd.R_mono HO225.out (fun _ hk => hk.2))); (case aS => exact (below_size (by repeat (first | (with_reducible first | exact HB.out | apply below_alloc | apply pw_below_drewN | apply below_drew1 | refine below_set ?_ GE215.out | refine below_set ?_ GE216.out) | exact HB.out)))); (case aL => have := LMc55.out; omega); intro v230 w65 ho hb hg hat; rw [← Ny229.out] at ho; have n0_ := Aside0.mk (blk_grown (g := gb215) (o := .cells #[.slice (some ad220) l0_0.length c0_0, .slice A0_1 l0_1.length c0_1] 39 (0, 0)) (by (with_reducible repeat (first | refine blk_drewN ?_ _ | refine blk_drew ?_ | refine blk_alloc ?_ _)); exact BK215.out) hg (Kd.R_ne HO225.out BK215.out (by decide))); have n1_ := Aside0.mk (blk_grown (g := gb216) (o := .cells #[.slice none 0 0, .slice none 0 0] 39 (0, 0)) (by (with_reducible repeat (first | refine blk_drewN ?_ _ | refine blk_drew ?_ | refine blk_alloc ?_ _)); exact BK216.out) hg (Kd.R_ne HO225.out BK216.out (by decide))); have n2_ := Aside0.mk (Kd.R_after (ok := (fun _ => True)) (by (with_reducible repeat (first | apply Kd.R_alloc | apply Kd.R_drewN | apply Kd.R_drew)); exact HO228.out) hg hat); have n3_ := Aside0.mk (hb); have n4_ := Aside0.mk (ho); clear BK215; clear BK216; clear HO228; clear HB; clear HO225; have BK215 := n0_; have BK216 := n1_; have HO228 := n2_; have HB := n3_; have HO231 := n4_; clear n0_ n1_ n2_ n3_ n4_; clear ho hb hg hat; obtain ⟨Ao67, co67, eo67⟩ := Kd.R_slice HO231.out; subst eo67) | ((with_reducible refine gate_dst (N := 14) rfl ?_); refine box_event ?hg (N := 14) ?hd (cs := #[.slice none 0 0, .slice none 0 0]) (t := 39) ?hr ?_; (case hd => rfl); (case hg => rfl); (case hr => first | (go_simp; done) | (go_simp; rfl)); intro gb232 hg w68 hbox hb; have n0_ := Aside0.mk (Kd.R_below (by (with_reducible repeat (first | apply Kd.R_alloc | apply Kd.R_drewN | apply Kd.R_drew)); exact HO228.out) hb); have n1_ := Aside0.mk (Kd.R_below (by (with_reducible repeat (first | apply Kd.R_alloc | apply Kd.R_drewN | apply Kd.R_drew)); exact HO231.out) hb); have n2_ := Aside0.mk (blk_below (g := gb215) (o := .cells #[.slice (some ad220) l0_0.length c0_0, .slice A0_1 l0_1.length c0_1] 39 (0, 0)) (by (with_reducible repeat (first | refine blk_drewN ?_ _ | refine blk_drew ?_ | refine blk_alloc ?_ _)); exact BK215.out) hb); have n3_ := Aside0.mk (blk_below (g := gb216) (o := .cells #[.slice none 0 0, .slice none 0 0] 39 (0, 0)) (by (with_reducible repeat (first | refine blk_drewN ?_ _ | refine blk_drew ?_ | refine blk_alloc ?_ _)); exact BK216.out) hb); have n4_ := Aside0.mk (below_step (by repeat (first | (with_reducible first | exact HB.out | apply below_alloc | apply pw_below_drewN | apply below_drew1 | refine below_set ?_ GE215.out | refine below_set ?_ GE216.out) | exact HB.out)) hb); have n5_ := Aside0.mk (hbox); have n6_ := Aside0.mk ((by rw [hg]; exact (below_size (by repeat (first | (with_reducible first | exact HB.out | apply below_alloc | apply pw_below_drewN | apply below_drew1 | refine below_set ?_ GE215.out | refine below_set ?_ GE216.out) | exact HB.out))) : w.heap.size ≤ gb232)); have n7_ := Aside0.mk ((by rw [hg]; exact (below_size (by repeat (first | (with_reducible first | exact HB.out | apply below_alloc | apply pw_below_drewN | apply below_drew1 | refine below_set ?_ GE215.out | refine below_set ?_ GE216.out) | exact HB.out))) : w.heap.size ≤ gb232)); have n8_ := Aside0.mk ((by rw [hg]; exact Nat.ne_of_lt (blk_lt (g := gb215) (o := .cells #[.slice (some ad220) l0_0.length c0_0, .slice A0_1 l0_1.length c0_1] 39 (0, 0)) (by (with_reducible repeat (first | refine blk_drewN ?_ _ | refine blk_drew ?_ | refine blk_alloc ?_ _)); exact BK215.out)) : gb215 ≠ gb232)); have n9_ := Aside0.mk ((by rw [hg]; exact Nat.ne_of_gt (blk_lt (g := gb215) (o := .cells #[.slice (some ad220) l0_0.length c0_0, .slice A0_1 l0_1.length c0_1] 39 (0, 0)) (by (with_reducible repeat (first | refine blk_drewN ?_ _ | refine blk_drew ?_ | refine blk_alloc ?_ _)); exact BK215.out)) : gb232 ≠ gb215)); have n10_ := Aside0.mk ((by rw [hg]; exact Nat.ne_of_lt (blk_lt (g := gb216) (o := .cells #[.slice none 0 0, .slice none 0 0] 39 (0, 0)) (by (with_reducible repeat (first | refine blk_drewN ?_ _ | refine blk_drew ?_ | refine blk_alloc ?_ _)); exact BK216.out)) : gb216 ≠ gb232)); have n11_ := Aside0.mk ((by rw [hg]; exact Nat.ne_of_gt (blk_lt (g := gb216) (o := .cells #[.slice none 0 0, .slice none 0 0] 39 (0, 0)) (by (with_reducible repeat (first | refine blk_drewN ?_ _ | refine blk_drew ?_ | refine blk_alloc ?_ _)); exact BK216.out)) : gb232 ≠ gb216)); clear HO228; clear HO231; clear BK215; clear BK216; clear HB; have HO228 := n0_; have HO231 := n1_; have BK215 := n2_; have BK216 := n3_; have HB := n4_; have BK232 := n5_; have GW232 := n6_; have GE232 := n7_; have NB215_232 := n8_; have NB232_215 := n9_; have NB216_232 := n10_; have NB232_216 := n11_; clear n0_ n1_ n2_ n3_ n4_ n5_ n6_ n7_ n8_ n9_ n10_ n11_; clear hb hbox hg; have hnb69 := NB232_215.out; have hnc69 := NB215_232.out; have hnb70 := NB232_216.out; have hnc70 := NB216_232.out; have hcz71_0 : w68.cell? ⟨gb232, 0, none⟩ = some (.slice none 0 0) := (blk_cell BK232.out 0).trans rfl; have hcz71_1 : w68.cell? ⟨gb232, 1, none⟩ = some (.slice none 0 0) := (blk_cell BK232.out 1).trans rfl; have hfz71_0 := blk_frozen BK232.out 0; have hfz71_1 := blk_frozen BK232.out 1; have hcz72_0 : w68.cell? ⟨gb215, 0, none⟩ = some (.slice (some ad220) l0_0.length c0_0) := (blk_cell BK215.out 0).trans rfl; have hcz72_1 : w68.cell? ⟨gb215, 1, none⟩ = some (.slice A0_1 l0_1.length c0_1) := (blk_cell BK215.out 1).trans rfl; have hfz72_0 := blk_frozen BK215.out 0; have hfz72_1 := blk_frozen BK215.out 1; obtain ⟨i073, hi073, _, hsz73, _⟩ := info_parts info3; obtain ⟨hcut73, hA73, hC73⟩ := print_take_of (P := Try.prog) (Value.int .i64) 0 22 3 .i64 Try.underlying22 hi073 hsz73 (some ad220) c0_0 l0_0 (ji45) (of_decide_eq_true (by first | (with_reducible assumption) | assumption)) (of_decide_eq_true (by first | (with_reducible assumption) | assumption)) HC0_0.out; have HR233 := Aside0.mk (Kd.C_of_reads (h1 := fun _ => rfl) (hA73 _ (Kd.reads_of_C HR0_0.out))); have HC233 := Aside0.mk hC73; clear hA73 hC73 hi073 hsz73; rw [← Nyrow61.out] at hcut73 HR233; (try rw [← Nyrow61.out] at HC233)) | (go_at_call 84; (with_reducible refine (impl_product.calls kj4 _ _ yrow61 t234 _ ?side1 ?side2 A58.out).mono ?_); (case side1 => exact Kd.C_below HR233.out (by repeat (first | (with_reducible first | exact HB.out | apply below_alloc | apply pw_below_drewN | apply below_drew1 | refine below_set ?_ GE215.out | refine below_set ?_ GE216.out | refine below_set ?_ GE232.out) | exact HB.out))); (case side2 => exact HC233.out); rintro e w' ⟨rfl, ⟨nd, rfl⟩⟩; (try first | exact ⟨rfl, _, World.drewN_drewN _ _ _⟩ | exact ⟨rfl, _, Eq.trans (World.drewN_drewN _ _ _) (congrArg (World.drewN _) (Nat.add_assoc _ _ _))⟩)))
           repeat (go_quiet (first | (go_at_call 80; (with_reducible refine (slices_Clone_int_int.calls _ _ yrow61 t223 _ ?side1 ?side2 A54.out).mono ?_); (case side1 => repeat (first | exact (Kd.C_below HR222.out HB.out) | (with_reducible refine Kd.C_alloc ?_ _) | (with_reducible refine Kd.C_drewN ?_ _) | (with_reducible refine Kd.C_drew ?_))); (case side2 => exact HC222.out); rintro e w62 ⟨v224, rfl, ho0, hb⟩; have n0_ := Aside0.mk (Kd.R_lower ho0 (below_size (by repeat (first | (with_reducible first | exact HB.out | apply below_alloc | apply pw_below_drewN | apply below_drew1 | refine below_set ?_ GE215.out | refine below_set ?_ GE216.out) | exact HB.out)))); have n1_ := Aside0.mk (blk_below (g := gb215) (o := .cells #[.slice (some ad220) l0_0.length c0_0, .slice A0_1 l0_1.length c0_1] 39 (0, 0)) (by (with_reducible repeat (first | refine blk_drewN ?_ _ | refine blk_drew ?_ | refine blk_alloc ?_ _)); exact BK215.out) hb); have n2_ := Aside0.mk (blk_below (g := gb216) (o := .cells #[.slice none 0 0, .slice none 0 0] 39 (0, 0)) (by (with_reducible repeat (first | refine blk_drewN ?_ _ | refine blk_drew ?_ | refine blk_alloc ?_ _)); exact BK216.out) hb); have n3_ := Aside0.mk (below_step (by repeat (first | (with_reducible first | exact HB.out | apply below_alloc | apply pw_below_drewN | apply below_drew1 | refine below_set ?_ GE215.out | refine below_set ?_ GE216.out) | exact HB.out)) hb); clear BK215; clear BK216; clear HB; have HO225 := n0_; have BK215 := n1_; have BK216 := n2_; have HB := n3_; clear n0_ n1_ n2_ n3_; (try clear hb); (try clear hb2); (try clear hk); (try clear hi); (try clear ho0)) | ((with_reducible refine gate_dst (N := 93) rfl ?_); refine Kd.R_lit (Kd.int .i64) _ 3 ?hg (N := 93) ?hd (xs := ([wrap64 ((wrap64 (Int.tdiv (wrap64 ((rd l0_0 (ji45)) - a1)) a2)) + 1), wrap64 ((wrap64 (Int.tdiv (wrap64 ((rd l0_0 (ji48)) - a1)) a2)) + 1)] : List Int)) (inner := [.int .i64 (wrap64 ((wrap64 (Int.tdiv (wrap64 ((rd l0_0 (ji45)) - a1)) a2)) + 1)), .int .i64 (wrap64 ((wrap64 (Int.tdiv (wrap64 ((rd l0_0 (ji48)) - a1)) a2)) + 1))]) (ok := fun _ => True) (okp := fun _ => True) ?hr ?hp (fun _ hk => hk) trivial (Below.refl _ _) (Nat.le_refl _) (by simp) ?_; (case hd => rfl); (case hg => rfl); (case hr => first | (go_simp; done) | (go_simp; rfl)); (case hp => exact (Reps.one (show Kd.M (Kd.int .i64) _ _ _ (wrap64 ((wrap64 (Int.tdiv (wrap64 ((rd l0_0 (ji45)) - a1)) a2)) + 1)) [.int .i64 (wrap64 ((wrap64 (Int.tdiv (wrap64 ((rd l0_0 (ji45)) - a1)) a2)) + 1))] from rfl) (Reps.one (show Kd.M (Kd.int .i64) _ _ _ (wrap64 ((wrap64 (Int.tdiv (wrap64 ((rd l0_0 (ji48)) - a1)) a2)) + 1)) [.int .i64 (wrap64 ((wrap64 (Int.tdiv (wrap64 ((rd l0_0 (ji48)) - a1)) a2)) + 1))] from rfl) (Reps.none _ _)))); intro v227 w63 ho64 hb hg_ hnew_; clear hg_ hnew_; (first | rw [← Ny226.out] at ho64 | (simp only [Int.reduceToNat] at ho64; rw [← Ny226.out] at ho64)); have n0_ := Aside0.mk (Kd.R_elder' (by (with_reducible repeat (first | apply Kd.R_alloc | apply Kd.R_drewN | apply Kd.R_drew)); exact HO225.out) (Kd.R_base ho64) hb); have n1_ := Aside0.mk (Kd.R_lower (Kd.R_new' ho64 (Kd.R_lt (by (with_reducible repeat (first | apply Kd.R_alloc | apply Kd.R_drewN | apply Kd.R_drew)); exact HO225.out))) (below_size (by repeat (first | (with_reducible first | exact HB.out | apply below_alloc | apply pw_below_drewN | apply below_drew1 | refine below_set ?_ GE215.out | refine below_set ?_ GE216.out) | exact HB.out)))); have n2_ := Aside0.mk (blk_below (g := gb215) (o := .cells #[.slice (some ad220) l0_0.length c0_0, .slice A0_1 l0_1.length c0_1] 39 (0, 0)) (by (with_reducible repeat (first | refine blk_drewN ?_ _ | refine blk_drew ?_ | refine blk_alloc ?_ _)); exact BK215.out) hb); have n3_ := Aside0.mk (blk_below (g := gb216) (o := .cells #[.slice none 0 0, .slice none 0 0] 39 (0, 0)) (by (with_reducible repeat (first | refine blk_drewN ?_ _ | refine blk_drew ?_ | refine blk_alloc ?_ _)); exact BK216.out) hb); have n4_ := Aside0.mk (below_step (by repeat (first | (with_reducible first | exact HB.out | apply below_alloc | apply pw_below_drewN | apply below_drew1 | refine below_set ?_ GE215.out | refine below_set ?_ GE216.out) | exact HB.out)) hb); clear HO225; clear BK215; clear BK216; clear HB; have HO225 := n0_; have HO228 := n1_; have BK215 := n2_; have BK216 := n3_; have HB := n4_; clear n0_ n1_ n2_ n3_ n4_; clear hb ho64; obtain ⟨Ao66, co66, eo66⟩ := Kd.R_slice HO228.out; subst eo66) | ((with_reducible refine gate_builtin (b := .append) (xs := #[.tmp 90, .tmp 93]) rfl ?_); at_builtin; refine Kd.R_append_rows (Kd.int .i64) (w0 := w) w.heap.size rfl (.tmp 90) (.tmp 93) 22 3 (.int .i64 0) 8 rfl Try.underlying22 info3 rfl (by decide) (by omega) v224 t223 y226 _ _ _ (fun k_ => some k_ ≠ (.slice Ao66 y226.length co66 : Value).ownBlock) (fun _ => False) rfl rfl ?aO ?aR (fun _ _ h => h) (fun _ h => h.elim) ?aF ?aB ?aS ?aL ?_; (case aR => repeat (first | exact (Kd.R_reads' HO228.out).2.2 | (with_reducible refine Kd.C_alloc ?_ _) | (with_reducible refine Kd.C_drewN ?_ _) | (with_reducible refine Kd.C_drew ?_))); (case aB => exact (by repeat (first | (with_reducible first | exact HB.out | apply below_alloc | apply pw_below_drewN | apply below_drew1 | refine below_set ?_ GE215.out | refine below_set ?_ GE216.out) | exact HB.out))); (case aF => exact (fun k_ hk => Kd.fresh' (Kd.R_lt (by (with_reducible repeat (first | apply Kd.R_alloc | apply Kd.R_drewN | apply Kd.R_drew)); exact HO228.out)) k_ hk)); (case aO => exact (by (with_reducible repeat (first | apply Kd.R_alloc | apply Kd.R_drewN | apply Kd.R_drew)); exact Kd.R_mono HO225.out (fun _ hk => hk.2))); (case aS => exact (below_size (by repeat (first | (with_reducible first | exact HB.out | apply below_alloc | apply pw_below_drewN | apply below_drew1 | refine below_set ?_ GE215.out | refine below_set ?_ GE216.out) | exact HB.out)))); (case aL => have := LMc55.out; omega); intro v230 w65 ho hb hg hat; rw [← Ny229.out] at ho; have n0_ := Aside0.mk (blk_grown (g := gb215) (o := .cells #[.slice (some ad220) l0_0.length c0_0, .slice A0_1 l0_1.length c0_1] 39 (0, 0)) (by (with_reducible repeat (first | refine blk_drewN ?_ _ | refine blk_drew ?_ | refine blk_alloc ?_ _)); exact BK215.out) hg (Kd.R_ne HO225.out BK215.out (by decide))); have n1_ := Aside0.mk (blk_grown (g := gb216) (o := .cells #[.slice none 0 0, .slice none 0 0] 39 (0, 0)) (by (with_reducible repeat (first | refine blk_drewN ?_ _ | refine blk_drew ?_ | refine blk_alloc ?_ _)); exact BK216.out) hg (Kd.R_ne HO225.out BK216.out (by decide))); have n2_ := Aside0.mk (Kd.R_after (ok := (fun _ => True)) (by (with_reducible repeat (first | apply Kd.R_alloc | apply Kd.R_drewN | apply Kd.R_drew)); exact HO228.out) hg hat); have n3_ := Aside0.mk (hb); have n4_ := Aside0.mk (ho); clear BK215; clear BK216; clear HO228; clear HB; clear HO225; have BK215 := n0_; have BK216 := n1_; have HO228 := n2_; have HB := n3_; have HO231 := n4_; clear n0_ n1_ n2_ n3_ n4_; clear ho hb hg hat; obtain ⟨Ao67, co67, eo67⟩ := Kd.R_slice HO231.out; subst eo67) | ((with_reducible refine gate_dst (N := 14) rfl ?_); refine box_event ?hg (N := 14) ?hd (cs := #[.slice none 0 0, .slice none 0 0]) (t := 39) ?hr ?_; (case hd => rfl); (case hg => rfl); (case hr => first | (go_simp; done) | (go_simp; rfl)); intro gb232 hg w68 hbox hb; have n0_ := Aside0.mk (Kd.R_below (by (with_reducible repeat (first | apply Kd.R_alloc | apply Kd.R_drewN | apply Kd.R_drew)); exact HO228.out) hb); have n1_ := Aside0.mk (Kd.R_below (by (with_reducible repeat (first | apply Kd.R_alloc | apply Kd.R_drewN | apply Kd.R_drew)); exact HO231.out) hb); have n2_ := Aside0.mk (blk_below (g := gb215) (o := .cells #[.slice (some ad220) l0_0.length c0_0, .slice A0_1 l0_1.length c0_1] 39 (0, 0)) (by (with_reducible repeat (first | refine blk_drewN ?_ _ | refine blk_drew ?_ | refine blk_alloc ?_ _)); exact BK215.out) hb); have n3_ := Aside0.mk (blk_below (g := gb216) (o := .cells #[.slice none 0 0, .slice none 0 0] 39 (0, 0)) (by (with_reducible repeat (first | refine blk_drewN ?_ _ | refine blk_drew ?_ | refine blk_alloc ?_ _)); exact BK216.out) hb); have n4_ := Aside0.mk (below_step (by repeat (first | (with_reducible first | exact HB.out | apply below_alloc | apply pw_below_drewN | apply below_drew1 | refine below_set ?_ GE215.out | refine below_set ?_ GE216.out) | exact HB.out)) hb); have n5_ := Aside0.mk (hbox); have n6_ := Aside0.mk ((by rw [hg]; exact (below_size (by repeat (first | (with_reducible first | exact HB.out | apply below_alloc | apply pw_below_drewN | apply below_drew1 | refine below_set ?_ GE215.out | refine below_set ?_ GE216.out) | exact HB.out))) : w.heap.size ≤ gb232)); have n7_ := Aside0.mk ((by rw [hg]; exact (below_size (by repeat (first | (with_reducible first | exact HB.out | apply below_alloc | apply pw_below_drewN | apply below_drew1 | refine below_set ?_ GE215.out | refine below_set ?_ GE216.out) | exact HB.out))) : w.heap.size ≤ gb232)); have n8_ := Aside0.mk ((by rw [hg]; exact Nat.ne_of_lt (blk_lt (g := gb215) (o := .cells #[.slice (some ad220) l0_0.length c0_0, .slice A0_1 l0_1.length c0_1] 39 (0, 0)) (by (with_reducible repeat (first | refine blk_drewN ?_ _ | refine blk_drew ?_ | refine blk_alloc ?_ _)); exact BK215.out)) : gb215 ≠ gb232)); have n9_ := Aside0.mk ((by rw [hg]; exact Nat.ne_of_gt (blk_lt (g := gb215) (o := .cells #[.slice (some ad220) l0_0.length c0_0, .slice A0_1 l0_1.length c0_1] 39 (0, 0)) (by (with_reducible repeat (first | refine blk_drewN ?_ _ | refine blk_drew ?_ | refine blk_alloc ?_ _)); exact BK215.out)) : gb232 ≠ gb215)); have n10_ := Aside0.mk ((by rw [hg]; exact Nat.ne_of_lt (blk_lt (g := gb216) (o := .cells #[.slice none 0 0, .slice none 0 0] 39 (0, 0)) (by (with_reducible repeat (first | refine blk_drewN ?_ _ | refine blk_drew ?_ | refine blk_alloc ?_ _)); exact BK216.out)) : gb216 ≠ gb232)); have n11_ := Aside0.mk ((by rw [hg]; exact Nat.ne_of_gt (blk_lt (g := gb216) (o := .cells #[.slice none 0 0, .slice none 0 0] 39 (0, 0)) (by (with_reducible repeat (first | refine blk_drewN ?_ _ | refine blk_drew ?_ | refine blk_alloc ?_ _)); exact BK216.out)) : gb232 ≠ gb216)); clear HO228; clear HO231; clear BK215; clear BK216; clear HB; have HO228 := n0_; have HO231 := n1_; have BK215 := n2_; have BK216 := n3_; have HB := n4_; have BK232 := n5_; have GW232 := n6_; have GE232 := n7_; have NB215_232 := n8_; have NB232_215 := n9_; have NB216_232 := n10_; have NB232_216 := n11_; clear n0_ n1_ n2_ n3_ n4_ n5_ n6_ n7_ n8_ n9_ n10_ n11_; clear hb hbox hg; have hnb69 := NB232_215.out; have hnc69 := NB215_232.out; have hnb70 := NB232_216.out; have hnc70 := NB216_232.out; have hcz71_0 : w68.cell? ⟨gb232, 0, none⟩ = some (.slice none 0 0) := (blk_cell BK232.out 0).trans rfl; have hcz71_1 : w68.cell? ⟨gb232, 1, none⟩ = some (.slice none 0 0) := (blk_cell BK232.out 1).trans rfl; have hfz71_0 := blk_frozen BK232.out 0; have hfz71_1 := blk_frozen BK232.out 1; have hcz72_0 : w68.cell? ⟨gb215, 0, none⟩ = some (.slice (some ad220) l0_0.length c0_0) := (blk_cell BK215.out 0).trans rfl; have hcz72_1 : w68.cell? ⟨gb215, 1, none⟩ = some (.slice A0_1 l0_1.length c0_1) := (blk_cell BK215.out 1).trans rfl; have hfz72_0 := blk_frozen BK215.out 0; have hfz72_1 := blk_frozen BK215.out 1; obtain ⟨i073, hi073, _, hsz73, _⟩ := info_parts info3; obtain ⟨hcut73, hA73, hC73⟩ := print_take_of (P := Try.prog) (Value.int .i64) 0 22 3 .i64 Try.underlying22 hi073 hsz73 (some ad220) c0_0 l0_0 (ji45) (of_decide_eq_true (by first | (with_reducible assumption) | assumption)) (of_decide_eq_true (by first | (with_reducible assumption) | assumption)) HC0_0.out; have HR233 := Aside0.mk (Kd.C_of_reads (h1 := fun _ => rfl) (hA73 _ (Kd.reads_of_C HR0_0.out))); have HC233 := Aside0.mk hC73; clear hA73 hC73 hi073 hsz73; rw [← Nyrow61.out] at hcut73 HR233; (try rw [← Nyrow61.out] at HC233)) | (go_at_call 84; (with_reducible refine (impl_product.calls kj4 _ _ yrow61 t234 _ ?side1 ?side2 A58.out).mono ?_); (case side1 => exact Kd.C_below HR233.out (by repeat (first | (with_reducible first | exact HB.out | apply below_alloc | apply pw_below_drewN | apply below_drew1 | refine below_set ?_ GE215.out | refine below_set ?_ GE216.out | refine below_set ?_ GE232.out) | exact HB.out))); (case side2 => exact HC233.out); rintro e w' ⟨rfl, ⟨nd, rfl⟩⟩; (try first | exact ⟨rfl, _, World.drewN_drewN _ _ _⟩ | exact ⟨rfl, _, Eq.trans (World.drewN_drewN _ _ _) (congrArg (World.drewN _) (Nat.add_assoc _ _ _))⟩))); try go_wp2_with (first | (go_at_call 80; (with_reducible refine (slices_Clone_int_int.calls _ _ yrow61 t223 _ ?side1 ?side2 A54.out).mono ?_); (case side1 => repeat (first | exact (Kd.C_below HR222.out HB.out) | (with_reducible refine Kd.C_alloc ?_ _) | (with_reducible refine Kd.C_drewN ?_ _) | (with_reducible refine Kd.C_drew ?_))); (case side2 => exact HC222.out); rintro e w62 ⟨v224, rfl, ho0, hb⟩; have n0_ := Aside0.mk (Kd.R_lower ho0 (below_size (by repeat (first | (with_reducible first | exact HB.out | apply below_alloc | apply pw_below_drewN | apply below_drew1 | refine below_set ?_ GE215.out | refine below_set ?_ GE216.out) | exact HB.out)))); have n1_ := Aside0.mk (blk_below (g := gb215) (o := .cells #[.slice (some ad220) l0_0.length c0_0, .slice A0_1 l0_1.length c0_1] 39 (0, 0)) (by (with_reducible repeat (first | refine blk_drewN ?_ _ | refine blk_drew ?_ | refine blk_alloc ?_ _)); exact BK215.out) hb); have n2_ := Aside0.mk (blk_below (g := gb216) (o := .cells #[.slice none 0 0, .slice none 0 0] 39 (0, 0)) (by (with_reducible repeat (first | refine blk_drewN ?_ _ | refine blk_drew ?_ | refine blk_alloc ?_ _)); exact BK216.out) hb); have n3_ := Aside0.mk (below_step (by repeat (first | (with_reducible first | exact HB.out | apply below_alloc | apply pw_below_drewN | apply below_drew1 | refine below_set ?_ GE215.out | refine below_set ?_ GE216.out) | exact HB.out)) hb); clear BK215; clear BK216; clear HB; have HO225 := n0_; have BK215 := n1_; have BK216 := n2_; have HB := n3_; clear n0_ n1_ n2_ n3_; (try clear hb); (try clear hb2); (try clear hk); (try clear hi); (try clear ho0)) | ((with_reducible refine gate_dst (N := 93) rfl ?_); refine Kd.R_lit (Kd.int .i64) _ 3 ?hg (N := 93) ?hd (xs := ([wrap64 ((wrap64 (Int.tdiv (wrap64 ((rd l0_0 (ji45)) - a1)) a2)) + 1), wrap64 ((wrap64 (Int.tdiv (wrap64 ((rd l0_0 (ji48)) - a1)) a2)) + 1)] : List Int)) (inner := [.int .i64 (wrap64 ((wrap64 (Int.tdiv (wrap64 ((rd l0_0 (ji45)) - a1)) a2)) + 1)), .int .i64 (wrap64 ((wrap64 (Int.tdiv (wrap64 ((rd l0_0 (ji48)) - a1)) a2)) + 1))]) (ok := fun _ => True) (okp := fun _ => True) ?hr ?hp (fun _ hk => hk) trivial (Below.refl _ _) (Nat.le_refl _) (by simp) ?_; (case hd => rfl); (case hg => rfl); (case hr => first | (go_simp; done) | (go_simp; rfl)); (case hp => exact (Reps.one (show Kd.M (Kd.int .i64) _ _ _ (wrap64 ((wrap64 (Int.tdiv (wrap64 ((rd l0_0 (ji45)) - a1)) a2)) + 1)) [.int .i64 (wrap64 ((wrap64 (Int.tdiv (wrap64 ((rd l0_0 (ji45)) - a1)) a2)) + 1))] from rfl) (Reps.one (show Kd.M (Kd.int .i64) _ _ _ (wrap64 ((wrap64 (Int.tdiv (wrap64 ((rd l0_0 (ji48)) - a1)) a2)) + 1)) [.int .i64 (wrap64 ((wrap64 (Int.tdiv (wrap64 ((rd l0_0 (ji48)) - a1)) a2)) + 1))] from rfl) (Reps.none _ _)))); intro v227 w63 ho64 hb hg_ hnew_; clear hg_ hnew_; (first | rw [← Ny226.out] at ho64 | (simp only [Int.reduceToNat] at ho64; rw [← Ny226.out] at ho64)); have n0_ := Aside0.mk (Kd.R_elder' (by (with_reducible repeat (first | apply Kd.R_alloc | apply Kd.R_drewN | apply Kd.R_drew)); exact HO225.out) (Kd.R_base ho64) hb); have n1_ := Aside0.mk (Kd.R_lower (Kd.R_new' ho64 (Kd.R_lt (by (with_reducible repeat (first | apply Kd.R_alloc | apply Kd.R_drewN | apply Kd.R_drew)); exact HO225.out))) (below_size (by repeat (first | (with_reducible first | exact HB.out | apply below_alloc | apply pw_below_drewN | apply below_drew1 | refine below_set ?_ GE215.out | refine below_set ?_ GE216.out) | exact HB.out)))); have n2_ := Aside0.mk (blk_below (g := gb215) (o := .cells #[.slice (some ad220) l0_0.length c0_0, .slice A0_1 l0_1.length c0_1] 39 (0, 0)) (by (with_reducible repeat (first | refine blk_drewN ?_ _ | refine blk_drew ?_ | refine blk_alloc ?_ _)); exact BK215.out) hb); have n3_ := Aside0.mk (blk_below (g := gb216) (o := .cells #[.slice none 0 0, .slice none 0 0] 39 (0, 0)) (by (with_reducible repeat (first | refine blk_drewN ?_ _ | refine blk_drew ?_ | refine blk_alloc ?_ _)); exact BK216.out) hb); have n4_ := Aside0.mk (below_step (by repeat (first | (with_reducible first | exact HB.out | apply below_alloc | apply pw_below_drewN | apply below_drew1 | refine below_set ?_ GE215.out | refine below_set ?_ GE216.out) | exact HB.out)) hb); clear HO225; clear BK215; clear BK216; clear HB; have HO225 := n0_; have HO228 := n1_; have BK215 := n2_; have BK216 := n3_; have HB := n4_; clear n0_ n1_ n2_ n3_ n4_; clear hb ho64; obtain ⟨Ao66, co66, eo66⟩ := Kd.R_slice HO228.out; subst eo66) | ((with_reducible refine gate_builtin (b := .append) (xs := #[.tmp 90, .tmp 93]) rfl ?_); at_builtin; refine Kd.R_append_rows (Kd.int .i64) (w0 := w) w.heap.size rfl (.tmp 90) (.tmp 93) 22 3 (.int .i64 0) 8 rfl Try.underlying22 info3 rfl (by decide) (by omega) v224 t223 y226 _ _ _ (fun k_ => some k_ ≠ (.slice Ao66 y226.length co66 : Value).ownBlock) (fun _ => False) rfl rfl ?aO ?aR (fun _ _ h => h) (fun _ h => h.elim) ?aF ?aB ?aS ?aL ?_; (case aR => repeat (first | exact (Kd.R_reads' HO228.out).2.2 | (with_reducible refine Kd.C_alloc ?_ _) | (with_reducible refine Kd.C_drewN ?_ _) | (with_reducible refine Kd.C_drew ?_))); (case aB => exact (by repeat (first | (with_reducible first | exact HB.out | apply below_alloc | apply pw_below_drewN | apply below_drew1 | refine below_set ?_ GE215.out | refine below_set ?_ GE216.out) | exact HB.out))); (case aF => exact (fun k_ hk => Kd.fresh' (Kd.R_lt (by (with_reducible repeat (first | apply Kd.R_alloc | apply Kd.R_drewN | apply Kd.R_drew)); exact HO228.out)) k_ hk)); (case aO => exact (by (with_reducible repeat (first | apply Kd.R_alloc | apply Kd.R_drewN | apply Kd.R_drew)); exact Kd.R_mono HO225.out (fun _ hk => hk.2))); (case aS => exact (below_size (by repeat (first | (with_reducible first | exact HB.out | apply below_alloc | apply pw_below_drewN | apply below_drew1 | refine below_set ?_ GE215.out | refine below_set ?_ GE216.out) | exact HB.out)))); (case aL => have := LMc55.out; omega); intro v230 w65 ho hb hg hat; rw [← Ny229.out] at ho; have n0_ := Aside0.mk (blk_grown (g := gb215) (o := .cells #[.slice (some ad220) l0_0.length c0_0, .slice A0_1 l0_1.length c0_1] 39 (0, 0)) (by (with_reducible repeat (first | refine blk_drewN ?_ _ | refine blk_drew ?_ | refine blk_alloc ?_ _)); exact BK215.out) hg (Kd.R_ne HO225.out BK215.out (by decide))); have n1_ := Aside0.mk (blk_grown (g := gb216) (o := .cells #[.slice none 0 0, .slice none 0 0] 39 (0, 0)) (by (with_reducible repeat (first | refine blk_drewN ?_ _ | refine blk_drew ?_ | refine blk_alloc ?_ _)); exact BK216.out) hg (Kd.R_ne HO225.out BK216.out (by decide))); have n2_ := Aside0.mk (Kd.R_after (ok := (fun _ => True)) (by (with_reducible repeat (first | apply Kd.R_alloc | apply Kd.R_drewN | apply Kd.R_drew)); exact HO228.out) hg hat); have n3_ := Aside0.mk (hb); have n4_ := Aside0.mk (ho); clear BK215; clear BK216; clear HO228; clear HB; clear HO225; have BK215 := n0_; have BK216 := n1_; have HO228 := n2_; have HB := n3_; have HO231 := n4_; clear n0_ n1_ n2_ n3_ n4_; clear ho hb hg hat; obtain ⟨Ao67, co67, eo67⟩ := Kd.R_slice HO231.out; subst eo67) | ((with_reducible refine gate_dst (N := 14) rfl ?_); refine box_event ?hg (N := 14) ?hd (cs := #[.slice none 0 0, .slice none 0 0]) (t := 39) ?hr ?_; (case hd => rfl); (case hg => rfl); (case hr => first | (go_simp; done) | (go_simp; rfl)); intro gb232 hg w68 hbox hb; have n0_ := Aside0.mk (Kd.R_below (by (with_reducible repeat (first | apply Kd.R_alloc | apply Kd.R_drewN | apply Kd.R_drew)); exact HO228.out) hb); have n1_ := Aside0.mk (Kd.R_below (by (with_reducible repeat (first | apply Kd.R_alloc | apply Kd.R_drewN | apply Kd.R_drew)); exact HO231.out) hb); have n2_ := Aside0.mk (blk_below (g := gb215) (o := .cells #[.slice (some ad220) l0_0.length c0_0, .slice A0_1 l0_1.length c0_1] 39 (0, 0)) (by (with_reducible repeat (first | refine blk_drewN ?_ _ | refine blk_drew ?_ | refine blk_alloc ?_ _)); exact BK215.out) hb); have n3_ := Aside0.mk (blk_below (g := gb216) (o := .cells #[.slice none 0 0, .slice none 0 0] 39 (0, 0)) (by (with_reducible repeat (first | refine blk_drewN ?_ _ | refine blk_drew ?_ | refine blk_alloc ?_ _)); exact BK216.out) hb); have n4_ := Aside0.mk (below_step (by repeat (first | (with_reducible first | exact HB.out | apply below_alloc | apply pw_below_drewN | apply below_drew1 | refine below_set ?_ GE215.out | refine below_set ?_ GE216.out) | exact HB.out)) hb); have n5_ := Aside0.mk (hbox); have n6_ := Aside0.mk ((by rw [hg]; exact (below_size (by repeat (first | (with_reducible first | exact HB.out | apply below_alloc | apply pw_below_drewN | apply below_drew1 | refine below_set ?_ GE215.out | refine below_set ?_ GE216.out) | exact HB.out))) : w.heap.size ≤ gb232)); have n7_ := Aside0.mk ((by rw [hg]; exact (below_size (by repeat (first | (with_reducible first | exact HB.out | apply below_alloc | apply pw_below_drewN | apply below_drew1 | refine below_set ?_ GE215.out | refine below_set ?_ GE216.out) | exact HB.out))) : w.heap.size ≤ gb232)); have n8_ := Aside0.mk ((by rw [hg]; exact Nat.ne_of_lt (blk_lt (g := gb215) (o := .cells #[.slice (some ad220) l0_0.length c0_0, .slice A0_1 l0_1.length c0_1] 39 (0, 0)) (by (with_reducible repeat (first | refine blk_drewN ?_ _ | refine blk_drew ?_ | refine blk_alloc ?_ _)); exact BK215.out)) : gb215 ≠ gb232)); have n9_ := Aside0.mk ((by rw [hg]; exact Nat.ne_of_gt (blk_lt (g := gb215) (o := .cells #[.slice (some ad220) l0_0.length c0_0, .slice A0_1 l0_1.length c0_1] 39 (0, 0)) (by (with_reducible repeat (first | refine blk_drewN ?_ _ | refine blk_drew ?_ | refine blk_alloc ?_ _)); exact BK215.out)) : gb232 ≠ gb215)); have n10_ := Aside0.mk ((by rw [hg]; exact Nat.ne_of_lt (blk_lt (g := gb216) (o := .cells #[.slice none 0 0, .slice none 0 0] 39 (0, 0)) (by (with_reducible repeat (first | refine blk_drewN ?_ _ | refine blk_drew ?_ | refine blk_alloc ?_ _)); exact BK216.out)) : gb216 ≠ gb232)); have n11_ := Aside0.mk ((by rw [hg]; exact Nat.ne_of_gt (blk_lt (g := gb216) (o := .cells #[.slice none 0 0, .slice none 0 0] 39 (0, 0)) (by (with_reducible repeat (first | refine blk_drewN ?_ _ | refine blk_drew ?_ | refine blk_alloc ?_ _)); exact BK216.out)) : gb232 ≠ gb216)); clear HO228; clear HO231; clear BK215; clear BK216; clear HB; have HO228 := n0_; have HO231 := n1_; have BK215 := n2_; have BK216 := n3_; have HB := n4_; have BK232 := n5_; have GW232 := n6_; have GE232 := n7_; have NB215_232 := n8_; have NB232_215 := n9_; have NB216_232 := n10_; have NB232_216 := n11_; clear n0_ n1_ n2_ n3_ n4_ n5_ n6_ n7_ n8_ n9_ n10_ n11_; clear hb hbox hg; have hnb69 := NB232_215.out; have hnc69 := NB215_232.out; have hnb70 := NB232_216.out; have hnc70 := NB216_232.out; have hcz71_0 : w68.cell? ⟨gb232, 0, none⟩ = some (.slice none 0 0) := (blk_cell BK232.out 0).trans rfl; have hcz71_1 : w68.cell? ⟨gb232, 1, none⟩ = some (.slice none 0 0) := (blk_cell BK232.out 1).trans rfl; have hfz71_0 := blk_frozen BK232.out 0; have hfz71_1 := blk_frozen BK232.out 1; have hcz72_0 : w68.cell? ⟨gb215, 0, none⟩ = some (.slice (some ad220) l0_0.length c0_0) := (blk_cell BK215.out 0).trans rfl; have hcz72_1 : w68.cell? ⟨gb215, 1, none⟩ = some (.slice A0_1 l0_1.length c0_1) := (blk_cell BK215.out 1).trans rfl; have hfz72_0 := blk_frozen BK215.out 0; have hfz72_1 := blk_frozen BK215.out 1; obtain ⟨i073, hi073, _, hsz73, _⟩ := info_parts info3; obtain ⟨hcut73, hA73, hC73⟩ := print_take_of (P := Try.prog) (Value.int .i64) 0 22 3 .i64 Try.underlying22 hi073 hsz73 (some ad220) c0_0 l0_0 (ji45) (of_decide_eq_true (by first | (with_reducible assumption) | assumption)) (of_decide_eq_true (by first | (with_reducible assumption) | assumption)) HC0_0.out; have HR233 := Aside0.mk (Kd.C_of_reads (h1 := fun _ => rfl) (hA73 _ (Kd.reads_of_C HR0_0.out))); have HC233 := Aside0.mk hC73; clear hA73 hC73 hi073 hsz73; rw [← Nyrow61.out] at hcut73 HR233; (try rw [← Nyrow61.out] at HC233)) | (go_at_call 84; (with_reducible refine (impl_product.calls kj4 _ _ yrow61 t234 _ ?side1 ?side2 A58.out).mono ?_); (case side1 => exact Kd.C_below HR233.out (by repeat (first | (with_reducible first | exact HB.out | apply below_alloc | apply pw_below_drewN | apply below_drew1 | refine below_set ?_ GE215.out | refine below_set ?_ GE216.out | refine below_set ?_ GE232.out) | exact HB.out))); (case side2 => exact HC233.out); rintro e w' ⟨rfl, ⟨nd, rfl⟩⟩; (try first | exact ⟨rfl, _, World.drewN_drewN _ _ _⟩ | exact ⟨rfl, _, Eq.trans (World.drewN_drewN _ _ _) (congrArg (World.drewN _) (Nat.add_assoc _ _ _))⟩))))
           go_loopg [102] kj4 (fun kq v102 w' => ∃ (x102_2 : Int) (x233001_2 : List Int) (u233001 : Value), v102 = .int .i64 x102_2 ∧ Aside0 (impl_pool.l0 kq a1 a2 (rd l0_0 (ji45)) (rd l0_0 (ji48)) (wrap64 ((wrap64 (Int.tdiv (wrap64 ((rd l0_0 (ji45)) - a1)) a2)) + 1)) (wrap64 ((wrap64 (Int.tdiv (wrap64 ((rd l0_0 (ji48)) - a1)) a2)) + 1)) t234 x102_2 l0_0 l0_1 y229 x233001_2 = some (r1, r2)) ∧ Aside0 (kq ≤ kj4) ∧ Aside0 (Kd.R (Kd.int .i64) 3 w' w.heap.size (fun k_ => some k_ ≠ (u233001 : Value).ownBlock) (.slice Ao67 y229.length co67) y229) ∧ Aside0 (Kd.R (Kd.int .i64) 3 w' w.heap.size (fun k_ => some k_ ≠ ((.slice Ao67 y229.length co67) : Value).ownBlock) u233001 x233001_2) ∧ Aside0 (w'.heap[gb215]? = some (.cells #[(.slice (some ad220) l0_0.length c0_0), (.slice A0_1 l0_1.length c0_1)] 39 (0, 0))) ∧ Aside0 (w'.heap[gb216]? = some (.cells #[(.slice none 0 0), (.slice none 0 0)] 39 (0, 0))) ∧ Aside0 (w'.heap[gb232]? = some (.cells #[(.slice Ao67 y229.length co67), u233001] 39 (0, 0))) ∧ Aside0 (Below w.heap.size w w'))
           case atStart => exact ⟨(0), (([] : List Int)), (.slice none 0 0), (by first | rfl | (simp; done) | (simp [*]; done)), H', ⟨Nat.le_refl _⟩, ⟨by (with_reducible repeat (first | apply Kd.R_alloc | apply Kd.R_drewN | apply Kd.R_drew)); exact Kd.R_mono (Kd.R_far (p := ⟨gb232, 1, none⟩) (Kd.R_far (p := ⟨gb232, 0, none⟩) (Kd.R_types HO231.out BK232.out (by decide)) (fun _ hk => hk.2) (.slice Ao67 y229.length co67)) (fun _ hk => hk.2) (.slice none 0 0)) (fun _ hk => (by simp [Value.ownBlock]))⟩, ⟨by first | exact Kd.R_nil _ _ _ _ _ | exact Kd.N_nil _ _ _ _ _ | exact Kd.V_nil _ _ _ _ _ | exact Kd.Q_nil _ _ _ _ _ | exact Kd.S_nil _ _ _ _ _⟩, ⟨by (with_reducible repeat (first | refine blk_drewN ?_ _ | refine blk_drew ?_ | refine blk_alloc ?_ _)); refine blk_far ?_ NB215_232.out _; (with_reducible repeat (first | refine blk_drewN ?_ _ | refine blk_drew ?_ | refine blk_alloc ?_ _)); refine blk_far ?_ NB215_232.out _; (with_reducible repeat (first | refine blk_drewN ?_ _ | refine blk_drew ?_ | refine blk_alloc ?_ _)); exact BK215.out⟩, ⟨by (with_reducible repeat (first | refine blk_drewN ?_ _ | refine blk_drew ?_ | refine blk_alloc ?_ _)); refine blk_far ?_ NB216_232.out _; (with_reducible repeat (first | refine blk_drewN ?_ _ | refine blk_drew ?_ | refine blk_alloc ?_ _)); refine blk_far ?_ NB216_232.out _; (with_reducible repeat (first | refine blk_drewN ?_ _ | refine blk_drew ?_ | refine blk_alloc ?_ _)); exact BK216.out⟩, ⟨by (with_reducible repeat (first | refine blk_drewN ?_ _ | refine blk_drew ?_ | refine blk_alloc ?_ _)); refine blk_put (cs := #[.slice Ao67 y229.length co67, .slice none 0 0]) ?_ 1 _ rfl; (with_reducible repeat (first | refine blk_drewN ?_ _ | refine blk_drew ?_ | refine blk_alloc ?_ _)); refine blk_put (cs := #[.slice none 0 0, .slice none 0 0]) ?_ 0 _ rfl; (with_reducible repeat (first | refine blk_drewN ?_ _ | refine blk_drew ?_ | refine blk_alloc ?_ _)); exact BK232.out⟩, ⟨by repeat (first | (with_reducible first | exact HB.out | apply below_alloc | apply pw_below_drewN | apply below_drew1 | refine below_set ?_ GE215.out | refine below_set ?_ GE216.out | refine below_set ?_ GE232.out) | exact HB.out)⟩⟩
           case round =>
            clear H'
            try clear c1
            try clear c2
            try clear p2
            try clear q2
            try clear hx2
            try clear c3
            try clear c4
            try clear c5
            try clear c6
            try clear p6
            try clear c7
            try clear c8
            try clear c11
            try clear c12
            try clear c12b0
            try clear c12b1
            try clear c13
            try clear c16
            try clear c16b0
            try clear c17
            try clear c20
            try clear c20b0
            try clear c21
            try clear p21
            try clear q21
            try clear hx21
            try clear p22
            try clear q22
            try clear hx22
            try clear c25
            try clear c25b0
            try clear c26
            try clear c26b0
            try clear c27
            try clear c27b0
            try clear c28
            try clear c33
            try clear c33b0
            try clear c34
            try clear c34b0
            try clear c35
            try clear c39
            try clear c42
            try clear c43
            try clear c46
            try clear c46b0
            try clear c47
            try clear c47b0
            try clear c49
            try clear c49b0
            try clear c50
            try clear c50b0
            try clear c51
            try clear c51b0
            try clear c51b1
            try clear c52
            try clear c52b0
            try clear c53
            try clear c53b0
            try clear c53b1
            try clear c55
            try clear c56
            try clear c56b0
            try clear c57
            try clear c57b0
            try clear c59
            try clear p64
            try clear c66
            try clear c69
            try clear c70
            try clear hcz14_0
            try clear hcz14_1
            try clear hcz18_0
            try clear hcz18_1
            try clear hcz22_0
            try clear hcz22_1
            try clear hcz29_0
            try clear hcz29_1
            try clear hcz31_0
            try clear hcz31_1
            try clear hcz36_0
            try clear hcz36_1
            try clear hcz38_0
            try clear hcz38_1
            try clear hcz40_0
            try clear hcz40_1
            try clear hcz44_0
            try clear hcz44_1
            try clear hcz60_0
            try clear hcz60_1
            try clear hcz71_0
            try clear hcz71_1
            try clear hcz72_0
            try clear hcz72_1
            try clear hcz9_0
            try clear hcz9_1
            try clear hfz14_0
            try clear hfz14_1
            try clear hfz18_0
            try clear hfz18_1
            try clear hfz22_0
            try clear hfz22_1
            try clear hfz29_0
            try clear hfz29_1
            try clear hfz31_0
            try clear hfz31_1
            try clear hfz36_0
            try clear hfz36_1
            try clear hfz38_0
            try clear hfz38_1
            try clear hfz40_0
            try clear hfz40_1
            try clear hfz44_0
            try clear hfz44_1
            try clear hfz60_0
            try clear hfz60_1
            try clear hfz71_0
            try clear hfz71_1
            try clear hfz72_0
            try clear hfz72_1
            try clear hfz9_0
            try clear hfz9_1
            try clear hx218_0
            try clear hx219_0
            try clear hx220_0
            try clear hx221_0
            try clear p2
            try clear p21
            try clear p218
            try clear p219
            try clear p220
            try clear p221
            try clear p6
            try clear q2
            try clear q21
            try clear q218
            try clear q219
            try clear q220
            try clear q221
            obtain ⟨x102_2, x233001_2, u233001, rfl, HA, HK2, HO_233000, HO_233001, BK215, BK216, BK232, HB⟩ := hrel
            cases gk with
            | zero => exact absurd HA.out (by simp [impl_pool.l0])
            | succ k2 =>
             have H := HA.out
             clear HA
             simp only [impl_pool.l0] at H
             by_cases c74 : x102_2 < t234
             ·rw [if_pos c74] at H
              have c74b0 : decide (x102_2 < t234) = true := decide_eq_true c74
              clear c74
              have H' := Aside0.mk H
              clear H
              go_wp2
              repeat (go_quiet (fail); try go_wp2)
              go_loopg [106] k2 (fun kq v106 w' => ∃ (x106_3 : Int) (x233001_3 : List Int) (u233001 : Value), v106 = .int .i64 x106_3 ∧ Aside0 (impl_pool.l1 kq a1 a2 (rd l0_0 (ji45)) (rd l0_0 (ji48)) (wrap64 ((wrap64 (Int.tdiv (wrap64 ((rd l0_0 (ji45)) - a1)) a2)) + 1)) (wrap64 ((wrap64 (Int.tdiv (wrap64 ((rd l0_0 (ji48)) - a1)) a2)) + 1)) x102_2 t234 x102_2 (wrap64 ((wrap64 (Int.tdiv (wrap64 ((rd l0_0 (ji45)) - a1)) a2)) + 1)) x106_3 l0_0 l0_1 y229 x233001_3 = some (r1, r2)) ∧ Aside0 (kq ≤ k2) ∧ Aside0 (Kd.R (Kd.int .i64) 3 w' w.heap.size (fun k_ => some k_ ≠ (u233001 : Value).ownBlock) (.slice Ao67 y229.length co67) y229) ∧ Aside0 (Kd.R (Kd.int .i64) 3 w' w.heap.size (fun k_ => some k_ ≠ ((.slice Ao67 y229.length co67) : Value).ownBlock) u233001 x233001_3) ∧ Aside0 (w'.heap[gb215]? = some (.cells #[(.slice (some ad220) l0_0.length c0_0), (.slice A0_1 l0_1.length c0_1)] 39 (0, 0))) ∧ Aside0 (w'.heap[gb216]? = some (.cells #[(.slice none 0 0), (.slice none 0 0)] 39 (0, 0))) ∧ Aside0 (w'.heap[gb232]? = some (.cells #[(.slice Ao67 y229.length co67), u233001] 39 (0, 0))) ∧ Aside0 (Below w.heap.size w w'))
              case atStart => exact ⟨(0), (x233001_2), (u233001), (by first | rfl | (simp; done) | (simp [*]; done)), H', ⟨Nat.le_refl _⟩, ⟨by (with_reducible repeat (first | apply Kd.R_alloc | apply Kd.R_drewN | apply Kd.R_drew)); exact HO_233000.out⟩, ⟨by (with_reducible repeat (first | apply Kd.R_alloc | apply Kd.R_drewN | apply Kd.R_drew)); exact HO_233001.out⟩, ⟨by (with_reducible repeat (first | refine blk_drewN ?_ _ | refine blk_drew ?_ | refine blk_alloc ?_ _)); exact BK215.out⟩, ⟨by (with_reducible repeat (first | refine blk_drewN ?_ _ | refine blk_drew ?_ | refine blk_alloc ?_ _)); exact BK216.out⟩, ⟨by (with_reducible repeat (first | refine blk_drewN ?_ _ | refine blk_drew ?_ | refine blk_alloc ?_ _)); exact BK232.out⟩, ⟨by repeat (first | (with_reducible first | exact HB.out | apply below_alloc | apply pw_below_drewN | apply below_drew1 | refine below_set ?_ GE215.out | refine below_set ?_ GE216.out | refine below_set ?_ GE232.out) | exact HB.out)⟩⟩
              case round =>
               clear H'
               try clear c1
               try clear c2
               try clear p2
               try clear q2
               try clear hx2
               try clear c3
               try clear c4
               try clear c5
               try clear c6
               try clear p6
               try clear c7
               try clear c8
               try clear c11
               try clear c12
               try clear c12b0
               try clear c12b1
               try clear c13
               try clear c16
               try clear c16b0
               try clear c17
               try clear c20
               try clear c20b0
               try clear c21
               try clear p21
               try clear q21
               try clear hx21
               try clear p22
               try clear q22
               try clear hx22
               try clear c25
               try clear c25b0
               try clear c26
               try clear c26b0
               try clear c27
               try clear c27b0
               try clear c28
               try clear c33
               try clear c33b0
               try clear c34
               try clear c34b0
               try clear c35
               try clear c39
               try clear c42
               try clear c43
               try clear c46
               try clear c46b0
               try clear c47
               try clear c47b0
               try clear c49
               try clear c49b0
               try clear c50
               try clear c50b0
               try clear c51
               try clear c51b0
               try clear c51b1
               try clear c52
               try clear c52b0
               try clear c53
               try clear c53b0
               try clear c53b1
               try clear c55
               try clear c56
               try clear c56b0
               try clear c57
               try clear c57b0
               try clear c59
               try clear p64
               try clear c66
               try clear c69
               try clear c70
               try clear c74
               try clear c74b0
               try clear hcz14_0
               try clear hcz14_1
               try clear hcz18_0
               try clear hcz18_1
               try clear hcz22_0
               try clear hcz22_1
               try clear hcz29_0
               try clear hcz29_1
               try clear hcz31_0
               try clear hcz31_1
               try clear hcz36_0
               try clear hcz36_1
               try clear hcz38_0
               try clear hcz38_1
               try clear hcz40_0
               try clear hcz40_1
               try clear hcz44_0
               try clear hcz44_1
               try clear hcz60_0
               try clear hcz60_1
               try clear hcz71_0
               try clear hcz71_1
               try clear hcz72_0
               try clear hcz72_1
               try clear hcz9_0
               try clear hcz9_1
               try clear hfz14_0
               try clear hfz14_1
               try clear hfz18_0
               try clear hfz18_1
               try clear hfz22_0
               try clear hfz22_1
               try clear hfz29_0
               try clear hfz29_1
               try clear hfz31_0
               try clear hfz31_1
               try clear hfz36_0
               try clear hfz36_1
               try clear hfz38_0
               try clear hfz38_1
               try clear hfz40_0
               try clear hfz40_1
               try clear hfz44_0
               try clear hfz44_1
               try clear hfz60_0
               try clear hfz60_1
               try clear hfz71_0
               try clear hfz71_1
               try clear hfz72_0
               try clear hfz72_1
               try clear hfz9_0
               try clear hfz9_1
               try clear hx218_0
               try clear hx219_0
               try clear hx220_0
               try clear hx221_0
               try clear p2
               try clear p21
               try clear p218
               try clear p219
               try clear p22
               try clear p220
               try clear p221
               try clear p6
               try clear p64
               try clear q2
               try clear q21
               try clear q218
               try clear q219
               try clear q22
               try clear q220
               try clear q221
               obtain ⟨x106_3, x233001_3, u233001, rfl, HA, HK3, HO_233000, HO_233001, BK215, BK216, BK232, HB⟩ := hrel
               cases gk with
               | zero => exact absurd HA.out (by simp [impl_pool.l1])
               | succ k3 =>
                have H := HA.out
                clear HA
                simp only [impl_pool.l1] at H
                by_cases c75 : x106_3 < (wrap64 ((wrap64 (Int.tdiv (wrap64 ((rd l0_0 (ji45)) - a1)) a2)) + 1))
                ·rw [if_pos c75] at H
                 have c75b0 : decide (x106_3 < (wrap64 ((wrap64 (Int.tdiv (wrap64 ((rd l0_0 (ji45)) - a1)) a2)) + 1))) = true := decide_eq_true c75
                 clear c75
                 have H' := Aside0.mk H
                 clear H
                 go_wp2
                 repeat (go_quiet (fail); try go_wp2)
                 go_loopg [110] k3 (fun kq v110 w' => ∃ (x110_4 : Int) (x233001_4 : List Int) (u233001 : Value), v110 = .int .i64 x110_4 ∧ Aside0 (impl_pool.l2 kq a1 a2 (rd l0_0 (ji45)) (rd l0_0 (ji48)) (wrap64 ((wrap64 (Int.tdiv (wrap64 ((rd l0_0 (ji45)) - a1)) a2)) + 1)) (wrap64 ((wrap64 (Int.tdiv (wrap64 ((rd l0_0 (ji48)) - a1)) a2)) + 1)) x102_2 x106_3 t234 x102_2 (wrap64 ((wrap64 (Int.tdiv (wrap64 ((rd l0_0 (ji45)) - a1)) a2)) + 1)) x106_3 (wrap64 ((wrap64 (Int.tdiv (wrap64 ((rd l0_0 (ji48)) - a1)) a2)) + 1)) x110_4 l0_0 l0_1 y229 x233001_4 = some (r1, r2)) ∧ Aside0 (kq ≤ k3) ∧ Aside0 (Kd.R (Kd.int .i64) 3 w' w.heap.size (fun k_ => some k_ ≠ (u233001 : Value).ownBlock) (.slice Ao67 y229.length co67) y229) ∧ Aside0 (Kd.R (Kd.int .i64) 3 w' w.heap.size (fun k_ => some k_ ≠ ((.slice Ao67 y229.length co67) : Value).ownBlock) u233001 x233001_4) ∧ Aside0 (w'.heap[gb215]? = some (.cells #[(.slice (some ad220) l0_0.length c0_0), (.slice A0_1 l0_1.length c0_1)] 39 (0, 0))) ∧ Aside0 (w'.heap[gb216]? = some (.cells #[(.slice none 0 0), (.slice none 0 0)] 39 (0, 0))) ∧ Aside0 (w'.heap[gb232]? = some (.cells #[(.slice Ao67 y229.length co67), u233001] 39 (0, 0))) ∧ Aside0 (Below w.heap.size w w'))
                 case atStart => exact ⟨(0), (x233001_3), (u233001), (by first | rfl | (simp; done) | (simp [*]; done)), H', ⟨Nat.le_refl _⟩, ⟨by (with_reducible repeat (first | apply Kd.R_alloc | apply Kd.R_drewN | apply Kd.R_drew)); exact HO_233000.out⟩, ⟨by (with_reducible repeat (first | apply Kd.R_alloc | apply Kd.R_drewN | apply Kd.R_drew)); exact HO_233001.out⟩, ⟨by (with_reducible repeat (first | refine blk_drewN ?_ _ | refine blk_drew ?_ | refine blk_alloc ?_ _)); exact BK215.out⟩, ⟨by (with_reducible repeat (first | refine blk_drewN ?_ _ | refine blk_drew ?_ | refine blk_alloc ?_ _)); exact BK216.out⟩, ⟨by (with_reducible repeat (first | refine blk_drewN ?_ _ | refine blk_drew ?_ | refine blk_alloc ?_ _)); exact BK232.out⟩, ⟨by repeat (first | (with_reducible first | exact HB.out | apply below_alloc | apply pw_below_drewN | apply below_drew1 | refine below_set ?_ GE215.out | refine below_set ?_ GE216.out | refine below_set ?_ GE232.out) | exact HB.out)⟩⟩
                 case round =>
                  clear H'
                  try clear c1
                  try clear c2
                  try clear p2
                  try clear q2
                  try clear hx2
                  try clear c3
                  try clear c4
                  try clear c5
                  try clear c6
                  try clear p6
                  try clear c7
                  try clear c8
                  try clear c11
                  try clear c12
                  try clear c12b0
                  try clear c12b1
                  try clear c13
                  try clear c16
                  try clear c16b0
                  try clear c17
                  try clear c20
                  try clear c20b0
                  try clear c21
                  try clear p21
                  try clear q21
                  try clear hx21
                  try clear p22
                  try clear q22
                  try clear hx22
                  try clear c25
                  try clear c25b0
                  try clear c26
                  try clear c26b0
                  try clear c27
                  try clear c27b0
                  try clear c28
                  try clear c33
                  try clear c33b0
                  try clear c34
                  try clear c34b0
                  try clear c35
                  try clear c39
                  try clear c42
                  try clear c43
                  try clear c46
                  try clear c46b0
                  try clear c47
                  try clear c47b0
                  try clear c49
                  try clear c49b0
                  try clear c50
                  try clear c50b0
                  try clear c51
                  try clear c51b0
                  try clear c51b1
                  try clear c52
                  try clear c52b0
                  try clear c53
                  try clear c53b0
                  try clear c53b1
                  try clear c55
                  try clear c56
                  try clear c56b0
                  try clear c57
                  try clear c57b0
                  try clear c59
                  try clear p64
                  try clear c66
                  try clear c69
                  try clear c70
                  try clear c74
                  try clear c74b0
                  try clear c75
                  try clear c75b0
                  try clear hcz14_0
                  try clear hcz14_1
                  try clear hcz18_0
                  try clear hcz18_1
                  try clear hcz22_0
                  try clear hcz22_1
                  try clear hcz29_0
                  try clear hcz29_1
                  try clear hcz31_0
                  try clear hcz31_1
                  try clear hcz36_0
                  try clear hcz36_1
                  try clear hcz38_0
                  try clear hcz38_1
                  try clear hcz40_0
                  try clear hcz40_1
                  try clear hcz44_0
                  try clear hcz44_1
                  try clear hcz60_0
                  try clear hcz60_1
                  try clear hcz71_0
                  try clear hcz71_1
                  try clear hcz72_0
                  try clear hcz72_1
                  try clear hcz9_0
                  try clear hcz9_1
                  try clear hfz14_0
                  try clear hfz14_1
                  try clear hfz18_0
                  try clear hfz18_1
                  try clear hfz22_0
                  try clear hfz22_1
                  try clear hfz29_0
                  try clear hfz29_1
                  try clear hfz31_0
                  try clear hfz31_1
                  try clear hfz36_0
                  try clear hfz36_1
                  try clear hfz38_0
                  try clear hfz38_1
                  try clear hfz40_0
                  try clear hfz40_1
                  try clear hfz44_0
                  try clear hfz44_1
                  try clear hfz60_0
                  try clear hfz60_1
                  try clear hfz71_0
                  try clear hfz71_1
                  try clear hfz72_0
                  try clear hfz72_1
                  try clear hfz9_0
                  try clear hfz9_1
                  try clear hx218_0
                  try clear hx219_0
                  try clear hx220_0
                  try clear hx221_0
                  try clear p2
                  try clear p21
                  try clear p218
                  try clear p219
                  try clear p22
                  try clear p220
                  try clear p221
                  try clear p6
                  try clear p64
                  try clear q2
                  try clear q21
                  try clear q218
                  try clear q219
                  try clear q22
                  try clear q220
                  try clear q221
                  obtain ⟨x110_4, x233001_4, u233001, rfl, HA, HK4, HO_233000, HO_233001, BK215, BK216, BK232, HB⟩ := hrel
                  cases gk with
                  | zero => exact absurd HA.out (by simp [impl_pool.l2])
                  | succ k4 =>
                   have H := HA.out
                   clear HA
                   simp only [impl_pool.l2] at H
                   by_cases c76 : x110_4 < (wrap64 ((wrap64 (Int.tdiv (wrap64 ((rd l0_0 (ji48)) - a1)) a2)) + 1))
                   ·rw [if_pos c76] at H
                    have c76b0 : decide (x110_4 < (wrap64 ((wrap64 (Int.tdiv (wrap64 ((rd l0_0 (ji48)) - a1)) a2)) + 1))) = true := decide_eq_true c76
                    clear c76
                    obtain ⟨ji77, hji77⟩ : ∃ j_ : Int, (wrap64 ((wrap64 ((wrap64 ((wrap64 (x102_2 * (rd l0_0 (ji45)))) * (rd l0_0 (ji48)))) + (wrap64 ((wrap64 (x106_3 * a2)) * (rd l0_0 (ji48)))))) + (wrap64 (x110_4 * a2)))) = j_ := ⟨_, rfl⟩
                    replace H : (if 0 ≤ (ji77) then (if (ji77) < (l0_1.length : Int) then (impl_pool.l3 k4 a1 a2 (rd l0_0 (ji45)) (rd l0_0 (ji48)) (wrap64 ((wrap64 (Int.tdiv (wrap64 ((rd l0_0 (ji45)) - a1)) a2)) + 1)) (wrap64 ((wrap64 (Int.tdiv (wrap64 ((rd l0_0 (ji48)) - a1)) a2)) + 1)) x102_2 x106_3 ji77 (rd l0_1 (ji77)) t234 x102_2 (wrap64 ((wrap64 (Int.tdiv (wrap64 ((rd l0_0 (ji45)) - a1)) a2)) + 1)) x106_3 (wrap64 ((wrap64 (Int.tdiv (wrap64 ((rd l0_0 (ji48)) - a1)) a2)) + 1)) x110_4 a1 0 l0_0 l0_1 y229 x233001_4) else (none)) else (none)) = some (r1, r2) := by first | (rw [hji77] at H; exact H) | (simp only [hji77] at H ⊢; exact H)
                    have hji77w : (IntKind.i64.wrap ((wrap64 ((wrap64 ((wrap64 (x102_2 * (rd l0_0 (ji45)))) * (rd l0_0 (ji48)))) + (wrap64 ((wrap64 (x106_3 * a2)) * (rd l0_0 (ji48)))))) + (wrap64 (x110_4 * a2)))) = ji77 := (i64_w _).trans hji77
                    by_cases c78 : 0 ≤ (ji77)
                    ·rw [if_pos c78] at H
                     have c78b0 : decide (0 ≤ (ji77)) = true := decide_eq_true c78
                     clear c78
                     by_cases c79 : (ji77) < (l0_1.length : Int)
                     ·rw [if_pos c79] at H
                      have c79b0 : decide ((ji77) < (l0_1.length : Int)) = true := decide_eq_true c79
                      clear c79
                      have H' := Aside0.mk H
                      clear H
                      have hnb80 := NB215_216.out
                      have hnc80 := NB216_215.out
                      have hnb81 := NB215_232.out
                      have hnc81 := NB232_215.out
                      have hcz82_0 : wr.cell? ⟨gb215, 0, none⟩ = some (.slice (some ad220) l0_0.length c0_0) := (blk_cell BK215.out 0).trans rfl
                      have hcz82_1 : wr.cell? ⟨gb215, 1, none⟩ = some (.slice A0_1 l0_1.length c0_1) := (blk_cell BK215.out 1).trans rfl
                      have hfz82_0 := blk_frozen BK215.out 0
                      have hfz82_1 := blk_frozen BK215.out 1
                      have p235 : 0 ≤ ((ji77) : Int) := of_decide_eq_true (by first | (with_reducible assumption) | assumption)
                      have q235 : (ji77) < (l0_1.length : Int) := of_decide_eq_true (by first | (with_reducible assumption) | assumption)
                      obtain ⟨ad235, e235, hx235_0⟩ := Kd.at_int HR0_1.out (ji77) p235 q235
                      cases e235
                      replace hx235_0 := (HB.out.cell (World.block_lt_of_cell? w _ hx235_0)).trans hx235_0
                      replace p235 := eq_true p235
                      replace q235 := eq_true q235
                      go_wp2
                      repeat (go_quiet (fail); try go_wp2)
                      go_loopg [19, 134] k4 (fun kq v19 v134 w' => ∃ (x19_5 : Int) (x134_5 : Int), v19 = .int .i64 x19_5 ∧ v134 = .int .i64 x134_5 ∧ Aside0 (impl_pool.l3 kq a1 a2 (rd l0_0 (ji45)) (rd l0_0 (ji48)) (wrap64 ((wrap64 (Int.tdiv (wrap64 ((rd l0_0 (ji45)) - a1)) a2)) + 1)) (wrap64 ((wrap64 (Int.tdiv (wrap64 ((rd l0_0 (ji48)) - a1)) a2)) + 1)) x102_2 x106_3 ji77 x19_5 t234 x102_2 (wrap64 ((wrap64 (Int.tdiv (wrap64 ((rd l0_0 (ji45)) - a1)) a2)) + 1)) x106_3 (wrap64 ((wrap64 (Int.tdiv (wrap64 ((rd l0_0 (ji48)) - a1)) a2)) + 1)) x110_4 a1 x134_5 l0_0 l0_1 y229 x233001_4 = some (r1, r2)) ∧ Aside0 (kq ≤ k4) ∧ Aside0 (Kd.R (Kd.int .i64) 3 w' w.heap.size (fun k_ => some k_ ≠ (u233001 : Value).ownBlock) (.slice Ao67 y229.length co67) y229) ∧ Aside0 (Kd.R (Kd.int .i64) 3 w' w.heap.size (fun k_ => some k_ ≠ ((.slice Ao67 y229.length co67) : Value).ownBlock) u233001 x233001_4) ∧ Aside0 (w'.heap[gb215]? = some (.cells #[(.slice (some ad220) l0_0.length c0_0), (.slice (some ad235) l0_1.length c0_1)] 39 (0, 0))) ∧ Aside0 (w'.heap[gb216]? = some (.cells #[(.slice none 0 0), (.slice none 0 0)] 39 (0, 0))) ∧ Aside0 (w'.heap[gb232]? = some (.cells #[(.slice Ao67 y229.length co67), u233001] 39 (0, 0))) ∧ Aside0 (Below w.heap.size w w'))
                      case atStart => exact ⟨(rd l0_1 (ji77)), (0), (by first | rfl | (simp; done) | (simp only [← hji77] <;> (first | rfl | simp)) | (simp [*]; done)), (by first | rfl | (simp; done) | (simp [*]; done)), H', ⟨Nat.le_refl _⟩, ⟨by (with_reducible repeat (first | apply Kd.R_alloc | apply Kd.R_drewN | apply Kd.R_drew)); exact HO_233000.out⟩, ⟨by (with_reducible repeat (first | apply Kd.R_alloc | apply Kd.R_drewN | apply Kd.R_drew)); exact HO_233001.out⟩, ⟨by (with_reducible repeat (first | refine blk_drewN ?_ _ | refine blk_drew ?_ | refine blk_alloc ?_ _)); exact BK215.out⟩, ⟨by (with_reducible repeat (first | refine blk_drewN ?_ _ | refine blk_drew ?_ | refine blk_alloc ?_ _)); exact BK216.out⟩, ⟨by (with_reducible repeat (first | refine blk_drewN ?_ _ | refine blk_drew ?_ | refine blk_alloc ?_ _)); exact BK232.out⟩, ⟨by repeat (first | (with_reducible first | exact HB.out | apply below_alloc | apply pw_below_drewN | apply below_drew1 | refine below_set ?_ GE215.out | refine below_set ?_ GE216.out | refine below_set ?_ GE232.out) | exact HB.out)⟩⟩
                      case round =>
                       clear H'
                       try clear c1
                       try clear c2
                       try clear p2
                       try clear q2
                       try clear hx2
                       try clear c3
                       try clear c4
                       try clear c5
                       try clear c6
                       try clear p6
                       try clear c7
                       try clear c8
                       try clear c11
                       try clear c12
                       try clear c12b0
                       try clear c12b1
                       try clear c13
                       try clear c16
                       try clear c16b0
                       try clear c17
                       try clear c20
                       try clear c20b0
                       try clear c21
                       try clear p21
                       try clear q21
                       try clear hx21
                       try clear p22
                       try clear q22
                       try clear hx22
                       try clear p23
                       try clear q23
                       try clear hx23
                       try clear c25
                       try clear c25b0
                       try clear c26
                       try clear c26b0
                       try clear c27
                       try clear c27b0
                       try clear c28
                       try clear c33
                       try clear c33b0
                       try clear c34
                       try clear c34b0
                       try clear c35
                       try clear c39
                       try clear c42
                       try clear c43
                       try clear c46
                       try clear c46b0
                       try clear c47
                       try clear c47b0
                       try clear c49
                       try clear c49b0
                       try clear c50
                       try clear c50b0
                       try clear c51
                       try clear c51b0
                       try clear c51b1
                       try clear c52
                       try clear c52b0
                       try clear c53
                       try clear c53b0
                       try clear c53b1
                       try clear c55
                       try clear c56
                       try clear c56b0
                       try clear c57
                       try clear c57b0
                       try clear c59
                       try clear p64
                       try clear c66
                       try clear c69
                       try clear c70
                       try clear c74
                       try clear c74b0
                       try clear c75
                       try clear c75b0
                       try clear c76
                       try clear c76b0
                       try clear c78
                       try clear c78b0
                       try clear c79
                       try clear c79b0
                       try clear c80
                       try clear c81
                       try clear hcz14_0
                       try clear hcz14_1
                       try clear hcz18_0
                       try clear hcz18_1
                       try clear hcz22_0
                       try clear hcz22_1
                       try clear hcz29_0
                       try clear hcz29_1
                       try clear hcz31_0
                       try clear hcz31_1
                       try clear hcz36_0
                       try clear hcz36_1
                       try clear hcz38_0
                       try clear hcz38_1
                       try clear hcz40_0
                       try clear hcz40_1
                       try clear hcz44_0
                       try clear hcz44_1
                       try clear hcz60_0
                       try clear hcz60_1
                       try clear hcz71_0
                       try clear hcz71_1
                       try clear hcz72_0
                       try clear hcz72_1
                       try clear hcz82_0
                       try clear hcz82_1
                       try clear hcz9_0
                       try clear hcz9_1
                       try clear hfz14_0
                       try clear hfz14_1
                       try clear hfz18_0
                       try clear hfz18_1
                       try clear hfz22_0
                       try clear hfz22_1
                       try clear hfz29_0
                       try clear hfz29_1
                       try clear hfz31_0
                       try clear hfz31_1
                       try clear hfz36_0
                       try clear hfz36_1
                       try clear hfz38_0
                       try clear hfz38_1
                       try clear hfz40_0
                       try clear hfz40_1
                       try clear hfz44_0
                       try clear hfz44_1
                       try clear hfz60_0
                       try clear hfz60_1
                       try clear hfz71_0
                       try clear hfz71_1
                       try clear hfz72_0
                       try clear hfz72_1
                       try clear hfz82_0
                       try clear hfz82_1
                       try clear hfz9_0
                       try clear hfz9_1
                       try clear hx218_0
                       try clear hx219_0
                       try clear hx220_0
                       try clear hx221_0
                       try clear hx235_0
                       try clear p2
                       try clear p21
                       try clear p218
                       try clear p219
                       try clear p22
                       try clear p220
                       try clear p221
                       try clear p235
                       try clear p6
                       try clear p64
                       try clear q2
                       try clear q21
                       try clear q218
                       try clear q219
                       try clear q22
                       try clear q220
                       try clear q221
                       try clear q235
                       obtain ⟨x19_5, x134_5, rfl, rfl, HA, HK5, HO_233000, HO_233001, BK215, BK216, BK232, HB⟩ := hrel
                       cases gk with
                       | zero => exact absurd HA.out (by simp [impl_pool.l3])
                       | succ k5 =>
                        have H := HA.out
                        clear HA
                        simp only [impl_pool.l3] at H
                        by_cases c83 : x134_5 < a1
                        ·rw [if_pos c83] at H
                         have c83b0 : decide (x134_5 < a1) = true := decide_eq_true c83
                         clear c83
                         have H' := Aside0.mk H
                         clear H
                         go_wp2
                         repeat (go_quiet (fail); try go_wp2)
                         go_loopg [19, 138] k5 (fun kq v19 v138 w' => ∃ (x19_6 : Int) (x138_6 : Int), v19 = .int .i64 x19_6 ∧ v138 = .int .i64 x138_6 ∧ Aside0 (impl_pool.l4 kq a1 a2 (rd l0_0 (ji45)) (rd l0_0 (ji48)) (wrap64 ((wrap64 (Int.tdiv (wrap64 ((rd l0_0 (ji45)) - a1)) a2)) + 1)) (wrap64 ((wrap64 (Int.tdiv (wrap64 ((rd l0_0 (ji48)) - a1)) a2)) + 1)) x102_2 x106_3 ji77 x19_6 x134_5 t234 x102_2 (wrap64 ((wrap64 (Int.tdiv (wrap64 ((rd l0_0 (ji45)) - a1)) a2)) + 1)) x106_3 (wrap64 ((wrap64 (Int.tdiv (wrap64 ((rd l0_0 (ji48)) - a1)) a2)) + 1)) x110_4 a1 x134_5 a1 x138_6 l0_0 l0_1 y229 x233001_4 = some (r1, r2)) ∧ Aside0 (kq ≤ k5) ∧ Aside0 (Kd.R (Kd.int .i64) 3 w' w.heap.size (fun k_ => some k_ ≠ (u233001 : Value).ownBlock) (.slice Ao67 y229.length co67) y229) ∧ Aside0 (Kd.R (Kd.int .i64) 3 w' w.heap.size (fun k_ => some k_ ≠ ((.slice Ao67 y229.length co67) : Value).ownBlock) u233001 x233001_4) ∧ Aside0 (w'.heap[gb215]? = some (.cells #[(.slice (some ad220) l0_0.length c0_0), (.slice (some ad235) l0_1.length c0_1)] 39 (0, 0))) ∧ Aside0 (w'.heap[gb216]? = some (.cells #[(.slice none 0 0), (.slice none 0 0)] 39 (0, 0))) ∧ Aside0 (w'.heap[gb232]? = some (.cells #[(.slice Ao67 y229.length co67), u233001] 39 (0, 0))) ∧ Aside0 (Below w.heap.size w w'))
                         case atStart => exact ⟨(x19_5), (0), (by first | rfl | (simp; done) | (simp [*]; done)), (by first | rfl | (simp; done) | (simp [*]; done)), H', ⟨Nat.le_refl _⟩, ⟨by (with_reducible repeat (first | apply Kd.R_alloc | apply Kd.R_drewN | apply Kd.R_drew)); exact HO_233000.out⟩, ⟨by (with_reducible repeat (first | apply Kd.R_alloc | apply Kd.R_drewN | apply Kd.R_drew)); exact HO_233001.out⟩, ⟨by (with_reducible repeat (first | refine blk_drewN ?_ _ | refine blk_drew ?_ | refine blk_alloc ?_ _)); exact BK215.out⟩, ⟨by (with_reducible repeat (first | refine blk_drewN ?_ _ | refine blk_drew ?_ | refine blk_alloc ?_ _)); exact BK216.out⟩, ⟨by (with_reducible repeat (first | refine blk_drewN ?_ _ | refine blk_drew ?_ | refine blk_alloc ?_ _)); exact BK232.out⟩, ⟨by repeat (first | (with_reducible first | exact HB.out | apply below_alloc | apply pw_below_drewN | apply below_drew1 | refine below_set ?_ GE215.out | refine below_set ?_ GE216.out | refine below_set ?_ GE232.out) | exact HB.out)⟩⟩
                         case round =>
                          clear H'
                          try clear c1
                          try clear c2
                          try clear p2
                          try clear q2
                          try clear hx2
                          try clear c3
                          try clear c4
                          try clear c5
                          try clear c6
                          try clear p6
                          try clear c7
                          try clear c8
                          try clear c11
                          try clear c12
                          try clear c12b0
                          try clear c12b1
                          try clear c13
                          try clear c16
                          try clear c16b0
                          try clear c17
                          try clear c20
                          try clear c20b0
                          try clear c21
                          try clear p21
                          try clear q21
                          try clear hx21
                          try clear p22
                          try clear q22
                          try clear hx22
                          try clear p23
                          try clear q23
                          try clear hx23
                          try clear c25
                          try clear c25b0
                          try clear c26
                          try clear c26b0
                          try clear c27
                          try clear c27b0
                          try clear c28
                          try clear c33
                          try clear c33b0
                          try clear c34
                          try clear c34b0
                          try clear c35
                          try clear c39
                          try clear c42
                          try clear c43
                          try clear c46
                          try clear c46b0
                          try clear c47
                          try clear c47b0
                          try clear c49
                          try clear c49b0
                          try clear c50
                          try clear c50b0
                          try clear c51
                          try clear c51b0
                          try clear c51b1
                          try clear c52
                          try clear c52b0
                          try clear c53
                          try clear c53b0
                          try clear c53b1
                          try clear c55
                          try clear c56
                          try clear c56b0
                          try clear c57
                          try clear c57b0
                          try clear c59
                          try clear p64
                          try clear c66
                          try clear c69
                          try clear c70
                          try clear c74
                          try clear c74b0
                          try clear c75
                          try clear c75b0
                          try clear c76
                          try clear c76b0
                          try clear c78
                          try clear c78b0
                          try clear c79
                          try clear c79b0
                          try clear c80
                          try clear c81
                          try clear c83
                          try clear c83b0
                          try clear hcz14_0
                          try clear hcz14_1
                          try clear hcz18_0
                          try clear hcz18_1
                          try clear hcz22_0
                          try clear hcz22_1
                          try clear hcz29_0
                          try clear hcz29_1
                          try clear hcz31_0
                          try clear hcz31_1
                          try clear hcz36_0
                          try clear hcz36_1
                          try clear hcz38_0
                          try clear hcz38_1
                          try clear hcz40_0
                          try clear hcz40_1
                          try clear hcz44_0
                          try clear hcz44_1
                          try clear hcz60_0
                          try clear hcz60_1
                          try clear hcz71_0
                          try clear hcz71_1
                          try clear hcz72_0
                          try clear hcz72_1
                          try clear hcz82_0
                          try clear hcz82_1
                          try clear hcz9_0
                          try clear hcz9_1
                          try clear hfz14_0
                          try clear hfz14_1
                          try clear hfz18_0
                          try clear hfz18_1
                          try clear hfz22_0
                          try clear hfz22_1
                          try clear hfz29_0
                          try clear hfz29_1
                          try clear hfz31_0
                          try clear hfz31_1
                          try clear hfz36_0
                          try clear hfz36_1
                          try clear hfz38_0
                          try clear hfz38_1
                          try clear hfz40_0
                          try clear hfz40_1
                          try clear hfz44_0
                          try clear hfz44_1
                          try clear hfz60_0
                          try clear hfz60_1
                          try clear hfz71_0
                          try clear hfz71_1
                          try clear hfz72_0
                          try clear hfz72_1
                          try clear hfz82_0
                          try clear hfz82_1
                          try clear hfz9_0
                          try clear hfz9_1
                          try clear hx218_0
                          try clear hx219_0
                          try clear hx220_0
                          try clear hx221_0
                          try clear hx235_0
                          try clear p2
                          try clear p21
                          try clear p218
                          try clear p219
                          try clear p22
                          try clear p220
                          try clear p221
                          try clear p23
                          try clear p235
                          try clear p6
                          try clear p64
                          try clear q2
                          try clear q21
                          try clear q218
                          try clear q219
                          try clear q22
                          try clear q220
                          try clear q221
                          try clear q23
                          try clear q235
                          obtain ⟨x19_6, x138_6, rfl, rfl, HA, HK6, HO_233000, HO_233001, BK215, BK216, BK232, HB⟩ := hrel
                          cases gk with
                          | zero => exact absurd HA.out (by simp [impl_pool.l4])
                          | succ k6 =>
                           have H := HA.out
                           clear HA
                           simp only [impl_pool.l4] at H
                           by_cases c84 : x138_6 < a1
                           ·rw [if_pos c84] at H
                            have c84b0 : decide (x138_6 < a1) = true := decide_eq_true c84
                            clear c84
                            by_cases c85 : (wrap64 (x134_5 + x138_6)) > 0
                            ·rw [if_pos c85] at H
                             have c85b0 : decide (0 < (wrap64 (x134_5 + x138_6))) = true := decide_eq_true c85
                             clear c85
                             obtain ⟨ji86, hji86⟩ : ∃ j_ : Int, (wrap64 ((wrap64 (ji77 + (wrap64 (x134_5 * (rd l0_0 (ji48)))))) + x138_6)) = j_ := ⟨_, rfl⟩
                             replace H : (if 0 ≤ (ji86) then (if (ji86) < (l0_1.length : Int) then ((impl_Plus.f x19_6 (rd l0_1 (ji86))).bind fun t240 => (impl_pool.l4 k6 a1 a2 (rd l0_0 (ji45)) (rd l0_0 (ji48)) (wrap64 ((wrap64 (Int.tdiv (wrap64 ((rd l0_0 (ji45)) - a1)) a2)) + 1)) (wrap64 ((wrap64 (Int.tdiv (wrap64 ((rd l0_0 (ji48)) - a1)) a2)) + 1)) x102_2 x106_3 ji77 t240 x134_5 t234 x102_2 (wrap64 ((wrap64 (Int.tdiv (wrap64 ((rd l0_0 (ji45)) - a1)) a2)) + 1)) x106_3 (wrap64 ((wrap64 (Int.tdiv (wrap64 ((rd l0_0 (ji48)) - a1)) a2)) + 1)) x110_4 a1 x134_5 a1 (wrap64 (x138_6 + 1)) l0_0 l0_1 y229 x233001_4)) else (none)) else (none)) = some (r1, r2) := by first | (rw [hji86] at H; exact H) | (simp only [hji86] at H ⊢; exact H)
                             have hji86w : (IntKind.i64.wrap ((wrap64 (ji77 + (wrap64 (x134_5 * (rd l0_0 (ji48)))))) + x138_6)) = ji86 := (i64_w _).trans hji86
                             by_cases c87 : 0 ≤ (ji86)
                             ·rw [if_pos c87] at H
                              have c87b0 : decide (0 ≤ (ji86)) = true := decide_eq_true c87
                              clear c87
                              by_cases c88 : (ji86) < (l0_1.length : Int)
                              ·rw [if_pos c88] at H
                               have c88b0 : decide ((ji86) < (l0_1.length : Int)) = true := decide_eq_true c88
                               clear c88
                               replace H := Option.bind_eq_some_iff.mp H
                               obtain ⟨t240, A890, H⟩ := H
                               replace H : (impl_pool.l4 k6 a1 a2 (rd l0_0 (ji45)) (rd l0_0 (ji48)) (wrap64 ((wrap64 (Int.tdiv (wrap64 ((rd l0_0 (ji45)) - a1)) a2)) + 1)) (wrap64 ((wrap64 (Int.tdiv (wrap64 ((rd l0_0 (ji48)) - a1)) a2)) + 1)) x102_2 x106_3 ji77 t240 x134_5 t234 x102_2 (wrap64 ((wrap64 (Int.tdiv (wrap64 ((rd l0_0 (ji45)) - a1)) a2)) + 1)) x106_3 (wrap64 ((wrap64 (Int.tdiv (wrap64 ((rd l0_0 (ji48)) - a1)) a2)) + 1)) x110_4 a1 x134_5 a1 (wrap64 (x138_6 + 1)) l0_0 l0_1 y229 x233001_4) = some (r1, r2) := H
                               have A89 := Aside0.mk A890
                               clear A890
                               have H' := Aside0.mk H
                               clear H
                               have hnb90 := NB215_216.out
                               have hnc90 := NB216_215.out
                               have hnb91 := NB215_232.out
                               have hnc91 := NB232_215.out
                               have hcz92_0 : wr.cell? ⟨gb215, 0, none⟩ = some (.slice (some ad220) l0_0.length c0_0) := (blk_cell BK215.out 0).trans rfl
                               have hcz92_1 : wr.cell? ⟨gb215, 1, none⟩ = some (.slice (some ad235) l0_1.length c0_1) := (blk_cell BK215.out 1).trans rfl
                               have hfz92_0 := blk_frozen BK215.out 0
                               have hfz92_1 := blk_frozen BK215.out 1
                               have p239 : 0 ≤ ((ji86) : Int) := of_decide_eq_true (by first | (with_reducible assumption) | assumption)
                               have q239 : (ji86) < (l0_1.length : Int) := of_decide_eq_true (by first | (with_reducible assumption) | assumption)
                               obtain ⟨ad239, e239, hx239_0⟩ := Kd.at_int HR0_1.out (ji86) p239 q239
                               obtain rfl : ad235 = ad239 := (by injection e239)
                               replace hx239_0 := (HB.out.cell (World.block_lt_of_cell? w _ hx239_0)).trans hx239_0
                               replace p239 := eq_true p239
                               replace q239 := eq_true q239
                               go_wp2_with (first | (go_at_call 67; (with_reducible refine (impl_Plus.calls x19_6 (rd l0_1 (ji86)) t240 _ A89.out).mono ?_); rintro e w' ⟨rfl, ⟨nd, rfl⟩⟩; (try first | exact ⟨rfl, _, World.drewN_drewN _ _ _⟩ | exact ⟨rfl, _, Eq.trans (World.drewN_drewN _ _ _) (congrArg (World.drewN _) (Nat.add_assoc _ _ _))⟩)))
                               repeat (go_quiet (first | (go_at_call 67; (with_reducible refine (impl_Plus.calls x19_6 (rd l0_1 (ji86)) t240 _ A89.out).mono ?_); rintro e w' ⟨rfl, ⟨nd, rfl⟩⟩; (try first | exact ⟨rfl, _, World.drewN_drewN _ _ _⟩ | exact ⟨rfl, _, Eq.trans (World.drewN_drewN _ _ _) (congrArg (World.drewN _) (Nat.add_assoc _ _ _))⟩))); try go_wp2_with (first | (go_at_call 67; (with_reducible refine (impl_Plus.calls x19_6 (rd l0_1 (ji86)) t240 _ A89.out).mono ?_); rintro e w' ⟨rfl, ⟨nd, rfl⟩⟩; (try first | exact ⟨rfl, _, World.drewN_drewN _ _ _⟩ | exact ⟨rfl, _, Eq.trans (World.drewN_drewN _ _ _) (congrArg (World.drewN _) (Nat.add_assoc _ _ _))⟩))))
                               go_roundg k6
                               case measure => have := HJ4.out; have := HK2.out; have := HK3.out; have := HK4.out; have := HK5.out; have := HK6.out; omega
                               case rel => exact ⟨(t240), (wrap64 (x138_6 + 1)), (by first | rfl | (simp; done) | (simp [*]; done)), (by first | rfl | (simp; done) | (simp [*]; done)), H', ⟨by have := HJ4.out; have := HK2.out; have := HK3.out; have := HK4.out; have := HK5.out; have := HK6.out; omega⟩, ⟨by (with_reducible repeat (first | apply Kd.R_alloc | apply Kd.R_drewN | apply Kd.R_drew)); exact HO_233000.out⟩, ⟨by (with_reducible repeat (first | apply Kd.R_alloc | apply Kd.R_drewN | apply Kd.R_drew)); exact HO_233001.out⟩, ⟨by (with_reducible repeat (first | refine blk_drewN ?_ _ | refine blk_drew ?_ | refine blk_alloc ?_ _)); exact BK215.out⟩, ⟨by (with_reducible repeat (first | refine blk_drewN ?_ _ | refine blk_drew ?_ | refine blk_alloc ?_ _)); exact BK216.out⟩, ⟨by (with_reducible repeat (first | refine blk_drewN ?_ _ | refine blk_drew ?_ | refine blk_alloc ?_ _)); exact BK232.out⟩, ⟨by repeat (first | (with_reducible first | exact HB.out | apply below_alloc | apply pw_below_drewN | apply below_drew1 | refine below_set ?_ GE215.out | refine below_set ?_ GE216.out | refine below_set ?_ GE232.out) | exact HB.out)⟩⟩
                              ·rw [if_neg c88] at H
                               exact absurd H (by simp)
                             ·rw [if_neg c87] at H
                              exact absurd H (by simp)
                            ·rw [if_neg c85] at H
                             have c85b0 : decide (0 < (wrap64 (x134_5 + x138_6))) = false := decide_eq_false c85
                             clear c85
                             have H' := Aside0.mk H
                             clear H
                             go_wp2
                             repeat (go_quiet (fail); try go_wp2)
                             go_roundg k6
                             case measure => have := HJ4.out; have := HK2.out; have := HK3.out; have := HK4.out; have := HK5.out; have := HK6.out; omega
                             case rel => exact ⟨(x19_6), (wrap64 (x138_6 + 1)), (by first | rfl | (simp; done) | (simp [*]; done)), (by first | rfl | (simp; done) | (simp [*]; done)), H', ⟨by have := HJ4.out; have := HK2.out; have := HK3.out; have := HK4.out; have := HK5.out; have := HK6.out; omega⟩, ⟨by (with_reducible repeat (first | apply Kd.R_alloc | apply Kd.R_drewN | apply Kd.R_drew)); exact HO_233000.out⟩, ⟨by (with_reducible repeat (first | apply Kd.R_alloc | apply Kd.R_drewN | apply Kd.R_drew)); exact HO_233001.out⟩, ⟨by (with_reducible repeat (first | refine blk_drewN ?_ _ | refine blk_drew ?_ | refine blk_alloc ?_ _)); exact BK215.out⟩, ⟨by (with_reducible repeat (first | refine blk_drewN ?_ _ | refine blk_drew ?_ | refine blk_alloc ?_ _)); exact BK216.out⟩, ⟨by (with_reducible repeat (first | refine blk_drewN ?_ _ | refine blk_drew ?_ | refine blk_alloc ?_ _)); exact BK232.out⟩, ⟨by repeat (first | (with_reducible first | exact HB.out | apply below_alloc | apply pw_below_drewN | apply below_drew1 | refine below_set ?_ GE215.out | refine below_set ?_ GE216.out | refine below_set ?_ GE232.out) | exact HB.out)⟩⟩
                           ·rw [if_neg c84] at H
                            have c84b0 : decide (x138_6 < a1) = false := decide_eq_false c84
                            clear c84
                            have H' := Aside0.mk H
                            clear H
                            go_wp2
                            repeat (go_quiet (fail); try go_wp2)
                            go_roundg k6
                            case measure => have := HJ4.out; have := HK2.out; have := HK3.out; have := HK4.out; have := HK5.out; have := HK6.out; omega
                            case rel => exact ⟨(x19_6), (wrap64 (x134_5 + 1)), (by first | rfl | (simp; done) | (simp [*]; done)), (by first | rfl | (simp; done) | (simp [*]; done)), H', ⟨by have := HJ4.out; have := HK2.out; have := HK3.out; have := HK4.out; have := HK5.out; have := HK6.out; omega⟩, ⟨by (with_reducible repeat (first | apply Kd.R_alloc | apply Kd.R_drewN | apply Kd.R_drew)); exact HO_233000.out⟩, ⟨by (with_reducible repeat (first | apply Kd.R_alloc | apply Kd.R_drewN | apply Kd.R_drew)); exact HO_233001.out⟩, ⟨by (with_reducible repeat (first | refine blk_drewN ?_ _ | refine blk_drew ?_ | refine blk_alloc ?_ _)); exact BK215.out⟩, ⟨by (with_reducible repeat (first | refine blk_drewN ?_ _ | refine blk_drew ?_ | refine blk_alloc ?_ _)); exact BK216.out⟩, ⟨by (with_reducible repeat (first | refine blk_drewN ?_ _ | refine blk_drew ?_ | refine blk_alloc ?_ _)); exact BK232.out⟩, ⟨by repeat (first | (with_reducible first | exact HB.out | apply below_alloc | apply pw_below_drewN | apply below_drew1 | refine below_set ?_ GE215.out | refine below_set ?_ GE216.out | refine below_set ?_ GE232.out) | exact HB.out)⟩⟩
                        ·rw [if_neg c83] at H
                         have c83b0 : decide (x134_5 < a1) = false := decide_eq_false c83
                         clear c83
                         by_cases c93 : x233001_4.length < 17592186044416
                         ·rw [if_pos c93] at H
                          have LMc93 := Aside0.mk c93
                          clear c93
                          obtain ⟨y236, hy236⟩ : ∃ y_ : List Int, y_ = (x233001_4 ++ [x19_5]) := ⟨_, rfl⟩
                          replace H : (impl_pool.l2 k5 a1 a2 (rd l0_0 (ji45)) (rd l0_0 (ji48)) (wrap64 ((wrap64 (Int.tdiv (wrap64 ((rd l0_0 (ji45)) - a1)) a2)) + 1)) (wrap64 ((wrap64 (Int.tdiv (wrap64 ((rd l0_0 (ji48)) - a1)) a2)) + 1)) x102_2 x106_3 t234 x102_2 (wrap64 ((wrap64 (Int.tdiv (wrap64 ((rd l0_0 (ji45)) - a1)) a2)) + 1)) x106_3 (wrap64 ((wrap64 (Int.tdiv (wrap64 ((rd l0_0 (ji48)) - a1)) a2)) + 1)) (wrap64 (x110_4 + 1)) l0_0 l0_1 y229 y236) = some (r1, r2) := by first | (rw [hy236]; with_reducible exact H) | (have H2_ := (Option.bind_some _ _).symm.trans H; rw [hy236]; with_reducible exact H2_) | (have H2_ := (Option.bind_some _ _).symm.trans H; with_reducible exact H2_) | with_reducible exact H | (rw [hy236]; exact H) | exact H
                          have Ny236 := Aside0.mk hy236
                          clear hy236
                          have H' := Aside0.mk H
                          clear H
                          have hnb94 := NB232_215.out
                          have hnc94 := NB215_232.out
                          have hnb95 := NB232_216.out
                          have hnc95 := NB216_232.out
                          have hcz96_0 : wr.cell? ⟨gb232, 0, none⟩ = some (.slice Ao67 y229.length co67) := (blk_cell BK232.out 0).trans rfl
                          have hcz96_1 : wr.cell? ⟨gb232, 1, none⟩ = some (u233001) := (blk_cell BK232.out 1).trans rfl
                          have hfz96_0 := blk_frozen BK232.out 0
                          have hfz96_1 := blk_frozen BK232.out 1
                          go_wp2_with (first | ((with_reducible refine gate_builtin (b := .append) (xs := #[.tmp 162, .tmp 164]) rfl ?_); at_builtin; refine Kd.R_append (Kd.int .i64) (w0 := w) w.heap.size rfl (.tmp 162) (.tmp 164) 22 3 (.int .i64 0) 8 rfl Try.underlying22 info3 rfl (by decide) (by omega) u233001 x233001_4 x19_5 [.int .i64 x19_5] (fun k_ => some k_ ≠ (.slice Ao67 y229.length co67 : Value).ownBlock) (fun _ => False) rfl rfl ?aP (fun _ hk => hk.elim) ?aF ?aO ?aB ?aS ?aL ?_; (case aP => exact rfl); (case aB => exact (by repeat (first | (with_reducible first | exact HB.out | apply below_alloc | apply pw_below_drewN | apply below_drew1 | refine below_set ?_ GE215.out | refine below_set ?_ GE216.out | refine below_set ?_ GE232.out) | exact HB.out))); (case aF => exact (fun k_ hk => Kd.fresh' (Kd.R_lt (by (with_reducible repeat (first | apply Kd.R_alloc | apply Kd.R_drewN | apply Kd.R_drew)); exact HO_233000.out)) k_ hk)); (case aO => exact (by (with_reducible repeat (first | apply Kd.R_alloc | apply Kd.R_drewN | apply Kd.R_drew)); exact HO_233001.out)); (case aS => exact (below_size (by repeat (first | (with_reducible first | exact HB.out | apply below_alloc | apply pw_below_drewN | apply below_drew1 | refine below_set ?_ GE215.out | refine below_set ?_ GE216.out | refine below_set ?_ GE232.out) | exact HB.out)))); (case aL => have := LMc93.out; omega); intro v237 w97 ho hb hg hat; rw [← Ny236.out] at ho; have n0_ := Aside0.mk (Kd.R_after (ok := (fun _ => True)) (by (with_reducible repeat (first | apply Kd.R_alloc | apply Kd.R_drewN | apply Kd.R_drew)); exact Kd.R_mono HO_233000.out (fun _ hk => ⟨trivial, hk⟩)) hg hat); have n1_ := Aside0.mk (blk_grown (g := gb215) (o := .cells #[.slice (some ad220) l0_0.length c0_0, .slice (some ad235) l0_1.length c0_1] 39 (0, 0)) (by (with_reducible repeat (first | refine blk_drewN ?_ _ | refine blk_drew ?_ | refine blk_alloc ?_ _)); exact BK215.out) hg (Kd.R_ne HO_233001.out BK215.out (by decide))); have n2_ := Aside0.mk (blk_grown (g := gb216) (o := .cells #[.slice none 0 0, .slice none 0 0] 39 (0, 0)) (by (with_reducible repeat (first | refine blk_drewN ?_ _ | refine blk_drew ?_ | refine blk_alloc ?_ _)); exact BK216.out) hg (Kd.R_ne HO_233001.out BK216.out (by decide))); have n3_ := Aside0.mk (blk_grown (g := gb232) (o := .cells #[.slice Ao67 y229.length co67, u233001] 39 (0, 0)) (by (with_reducible repeat (first | refine blk_drewN ?_ _ | refine blk_drew ?_ | refine blk_alloc ?_ _)); exact BK232.out) hg (Kd.R_ne HO_233001.out BK232.out (by decide))); have n4_ := Aside0.mk (hb); have n5_ := Aside0.mk (ho); clear HO_233000; clear BK215; clear BK216; clear BK232; clear HB; clear HO_233001; have HO_233000 := n0_; have BK215 := n1_; have BK216 := n2_; have BK232 := n3_; have HB := n4_; have HO238 := n5_; clear n0_ n1_ n2_ n3_ n4_ n5_; clear ho hb hg hat; obtain ⟨Ao98, co98, eo98⟩ := Kd.R_slice HO238.out; subst eo98; have hcz99_0 : w97.cell? ⟨gb232, 0, none⟩ = some (.slice Ao67 y229.length co67) := (blk_cell BK232.out 0).trans rfl; have hcz99_1 : w97.cell? ⟨gb232, 1, none⟩ = some (u233001) := (blk_cell BK232.out 1).trans rfl; have hfz99_0 := blk_frozen BK232.out 0; have hfz99_1 := blk_frozen BK232.out 1))
                          repeat (go_quiet (first | ((with_reducible refine gate_builtin (b := .append) (xs := #[.tmp 162, .tmp 164]) rfl ?_); at_builtin; refine Kd.R_append (Kd.int .i64) (w0 := w) w.heap.size rfl (.tmp 162) (.tmp 164) 22 3 (.int .i64 0) 8 rfl Try.underlying22 info3 rfl (by decide) (by omega) u233001 x233001_4 x19_5 [.int .i64 x19_5] (fun k_ => some k_ ≠ (.slice Ao67 y229.length co67 : Value).ownBlock) (fun _ => False) rfl rfl ?aP (fun _ hk => hk.elim) ?aF ?aO ?aB ?aS ?aL ?_; (case aP => exact rfl); (case aB => exact (by repeat (first | (with_reducible first | exact HB.out | apply below_alloc | apply pw_below_drewN | apply below_drew1 | refine below_set ?_ GE215.out | refine below_set ?_ GE216.out | refine below_set ?_ GE232.out) | exact HB.out))); (case aF => exact (fun k_ hk => Kd.fresh' (Kd.R_lt (by (with_reducible repeat (first | apply Kd.R_alloc | apply Kd.R_drewN | apply Kd.R_drew)); exact HO_233000.out)) k_ hk)); (case aO => exact (by (with_reducible repeat (first | apply Kd.R_alloc | apply Kd.R_drewN | apply Kd.R_drew)); exact HO_233001.out)); (case aS => exact (below_size (by repeat (first | (with_reducible first | exact HB.out | apply below_alloc | apply pw_below_drewN | apply below_drew1 | refine below_set ?_ GE215.out | refine below_set ?_ GE216.out | refine below_set ?_ GE232.out) | exact HB.out)))); (case aL => have := LMc93.out; omega); intro v237 w97 ho hb hg hat; rw [← Ny236.out] at ho; have n0_ := Aside0.mk (Kd.R_after (ok := (fun _ => True)) (by (with_reducible repeat (first | apply Kd.R_alloc | apply Kd.R_drewN | apply Kd.R_drew)); exact Kd.R_mono HO_233000.out (fun _ hk => ⟨trivial, hk⟩)) hg hat); have n1_ := Aside0.mk (blk_grown (g := gb215) (o := .cells #[.slice (some ad220) l0_0.length c0_0, .slice (some ad235) l0_1.length c0_1] 39 (0, 0)) (by (with_reducible repeat (first | refine blk_drewN ?_ _ | refine blk_drew ?_ | refine blk_alloc ?_ _)); exact BK215.out) hg (Kd.R_ne HO_233001.out BK215.out (by decide))); have n2_ := Aside0.mk (blk_grown (g := gb216) (o := .cells #[.slice none 0 0, .slice none 0 0] 39 (0, 0)) (by (with_reducible repeat (first | refine blk_drewN ?_ _ | refine blk_drew ?_ | refine blk_alloc ?_ _)); exact BK216.out) hg (Kd.R_ne HO_233001.out BK216.out (by decide))); have n3_ := Aside0.mk (blk_grown (g := gb232) (o := .cells #[.slice Ao67 y229.length co67, u233001] 39 (0, 0)) (by (with_reducible repeat (first | refine blk_drewN ?_ _ | refine blk_drew ?_ | refine blk_alloc ?_ _)); exact BK232.out) hg (Kd.R_ne HO_233001.out BK232.out (by decide))); have n4_ := Aside0.mk (hb); have n5_ := Aside0.mk (ho); clear HO_233000; clear BK215; clear BK216; clear BK232; clear HB; clear HO_233001; have HO_233000 := n0_; have BK215 := n1_; have BK216 := n2_; have BK232 := n3_; have HB := n4_; have HO238 := n5_; clear n0_ n1_ n2_ n3_ n4_ n5_; clear ho hb hg hat; obtain ⟨Ao98, co98, eo98⟩ := Kd.R_slice HO238.out; subst eo98; have hcz99_0 : w97.cell? ⟨gb232, 0, none⟩ = some (.slice Ao67 y229.length co67) := (blk_cell BK232.out 0).trans rfl; have hcz99_1 : w97.cell? ⟨gb232, 1, none⟩ = some (u233001) := (blk_cell BK232.out 1).trans rfl; have hfz99_0 := blk_frozen BK232.out 0; have hfz99_1 := blk_frozen BK232.out 1)); try go_wp2_with (first | ((with_reducible refine gate_builtin (b := .append) (xs := #[.tmp 162, .tmp 164]) rfl ?_); at_builtin; refine Kd.R_append (Kd.int .i64) (w0 := w) w.heap.size rfl (.tmp 162) (.tmp 164) 22 3 (.int .i64 0) 8 rfl Try.underlying22 info3 rfl (by decide) (by omega) u233001 x233001_4 x19_5 [.int .i64 x19_5] (fun k_ => some k_ ≠ (.slice Ao67 y229.length co67 : Value).ownBlock) (fun _ => False) rfl rfl ?aP (fun _ hk => hk.elim) ?aF ?aO ?aB ?aS ?aL ?_; (case aP => exact rfl); (case aB => exact (by repeat (first | (with_reducible first | exact HB.out | apply below_alloc | apply pw_below_drewN | apply below_drew1 | refine below_set ?_ GE215.out | refine below_set ?_ GE216.out | refine below_set ?_ GE232.out) | exact HB.out))); (case aF => exact (fun k_ hk => Kd.fresh' (Kd.R_lt (by (with_reducible repeat (first | apply Kd.R_alloc | apply Kd.R_drewN | apply Kd.R_drew)); exact HO_233000.out)) k_ hk)); (case aO => exact (by (with_reducible repeat (first | apply Kd.R_alloc | apply Kd.R_drewN | apply Kd.R_drew)); exact HO_233001.out)); (case aS => exact (below_size (by repeat (first | (with_reducible first | exact HB.out | apply below_alloc | apply pw_below_drewN | apply below_drew1 | refine below_set ?_ GE215.out | refine below_set ?_ GE216.out | refine below_set ?_ GE232.out) | exact HB.out)))); (case aL => have := LMc93.out; omega); intro v237 w97 ho hb hg hat; rw [← Ny236.out] at ho; have n0_ := Aside0.mk (Kd.R_after (ok := (fun _ => True)) (by (with_reducible repeat (first | apply Kd.R_alloc | apply Kd.R_drewN | apply Kd.R_drew)); exact Kd.R_mono HO_233000.out (fun _ hk => ⟨trivial, hk⟩)) hg hat); have n1_ := Aside0.mk (blk_grown (g := gb215) (o := .cells #[.slice (some ad220) l0_0.length c0_0, .slice (some ad235) l0_1.length c0_1] 39 (0, 0)) (by (with_reducible repeat (first | refine blk_drewN ?_ _ | refine blk_drew ?_ | refine blk_alloc ?_ _)); exact BK215.out) hg (Kd.R_ne HO_233001.out BK215.out (by decide))); have n2_ := Aside0.mk (blk_grown (g := gb216) (o := .cells #[.slice none 0 0, .slice none 0 0] 39 (0, 0)) (by (with_reducible repeat (first | refine blk_drewN ?_ _ | refine blk_drew ?_ | refine blk_alloc ?_ _)); exact BK216.out) hg (Kd.R_ne HO_233001.out BK216.out (by decide))); have n3_ := Aside0.mk (blk_grown (g := gb232) (o := .cells #[.slice Ao67 y229.length co67, u233001] 39 (0, 0)) (by (with_reducible repeat (first | refine blk_drewN ?_ _ | refine blk_drew ?_ | refine blk_alloc ?_ _)); exact BK232.out) hg (Kd.R_ne HO_233001.out BK232.out (by decide))); have n4_ := Aside0.mk (hb); have n5_ := Aside0.mk (ho); clear HO_233000; clear BK215; clear BK216; clear BK232; clear HB; clear HO_233001; have HO_233000 := n0_; have BK215 := n1_; have BK216 := n2_; have BK232 := n3_; have HB := n4_; have HO238 := n5_; clear n0_ n1_ n2_ n3_ n4_ n5_; clear ho hb hg hat; obtain ⟨Ao98, co98, eo98⟩ := Kd.R_slice HO238.out; subst eo98; have hcz99_0 : w97.cell? ⟨gb232, 0, none⟩ = some (.slice Ao67 y229.length co67) := (blk_cell BK232.out 0).trans rfl; have hcz99_1 : w97.cell? ⟨gb232, 1, none⟩ = some (u233001) := (blk_cell BK232.out 1).trans rfl; have hfz99_0 := blk_frozen BK232.out 0; have hfz99_1 := blk_frozen BK232.out 1)))
                          go_roundg k5
                          case measure => have := HJ4.out; have := HK2.out; have := HK3.out; have := HK4.out; have := HK5.out; omega
                          case rel => exact ⟨(wrap64 (x110_4 + 1)), (y236), (.slice Ao98 y236.length co98), (by first | rfl | (simp; done) | (simp [*]; done)), H', ⟨by have := HJ4.out; have := HK2.out; have := HK3.out; have := HK4.out; have := HK5.out; omega⟩, ⟨by (with_reducible repeat (first | apply Kd.R_alloc | apply Kd.R_drewN | apply Kd.R_drew)); exact Kd.R_mono (Kd.R_far (p := ⟨gb232, 1, none⟩) (Kd.R_types HO_233000.out BK232.out (by decide)) (fun _ hk => hk.2) (.slice Ao98 y236.length co98)) (fun _ hk => by first | exact hk.1.2 | exact hk.1)⟩, ⟨by (with_reducible repeat (first | apply Kd.R_alloc | apply Kd.R_drewN | apply Kd.R_drew)); exact Kd.R_mono (Kd.R_far (p := ⟨gb232, 1, none⟩) (Kd.R_types HO238.out BK232.out (by decide)) (fun _ hk => hk.2) (.slice Ao98 y236.length co98)) (fun _ hk => hk.1)⟩, ⟨by (with_reducible repeat (first | refine blk_drewN ?_ _ | refine blk_drew ?_ | refine blk_alloc ?_ _)); refine blk_far ?_ NB215_232.out _; (with_reducible repeat (first | refine blk_drewN ?_ _ | refine blk_drew ?_ | refine blk_alloc ?_ _)); exact BK215.out⟩, ⟨by (with_reducible repeat (first | refine blk_drewN ?_ _ | refine blk_drew ?_ | refine blk_alloc ?_ _)); refine blk_far ?_ NB216_232.out _; (with_reducible repeat (first | refine blk_drewN ?_ _ | refine blk_drew ?_ | refine blk_alloc ?_ _)); exact BK216.out⟩, ⟨by (with_reducible repeat (first | refine blk_drewN ?_ _ | refine blk_drew ?_ | refine blk_alloc ?_ _)); refine blk_put (cs := #[.slice Ao67 y229.length co67, u233001]) ?_ 1 _ rfl; (with_reducible repeat (first | refine blk_drewN ?_ _ | refine blk_drew ?_ | refine blk_alloc ?_ _)); exact BK232.out⟩, ⟨by repeat (first | (with_reducible first | exact HB.out | apply below_alloc | apply pw_below_drewN | apply below_drew1 | refine below_set ?_ GE215.out | refine below_set ?_ GE216.out | refine below_set ?_ GE232.out) | exact HB.out)⟩⟩
                         ·rw [if_neg c93] at H
                          exact absurd H (by simp)
                     ·rw [if_neg c79] at H
                      exact absurd H (by simp)
                    ·rw [if_neg c78] at H
                     exact absurd H (by simp)
                   ·rw [if_neg c76] at H
                    have c76b0 : decide (x110_4 < (wrap64 ((wrap64 (Int.tdiv (wrap64 ((rd l0_0 (ji48)) - a1)) a2)) + 1))) = false := decide_eq_false c76
                    clear c76
                    have H' := Aside0.mk H
                    clear H
                    go_wp2
                    repeat (go_quiet (fail); try go_wp2)
                    go_roundg k4
                    case measure => have := HJ4.out; have := HK2.out; have := HK3.out; have := HK4.out; omega
                    case rel => exact ⟨(wrap64 (x106_3 + 1)), (x233001_4), (u233001), (by first | rfl | (simp; done) | (simp [*]; done)), H', ⟨by have := HJ4.out; have := HK2.out; have := HK3.out; have := HK4.out; omega⟩, ⟨by (with_reducible repeat (first | apply Kd.R_alloc | apply Kd.R_drewN | apply Kd.R_drew)); exact HO_233000.out⟩, ⟨by (with_reducible repeat (first | apply Kd.R_alloc | apply Kd.R_drewN | apply Kd.R_drew)); exact HO_233001.out⟩, ⟨by (with_reducible repeat (first | refine blk_drewN ?_ _ | refine blk_drew ?_ | refine blk_alloc ?_ _)); exact BK215.out⟩, ⟨by (with_reducible repeat (first | refine blk_drewN ?_ _ | refine blk_drew ?_ | refine blk_alloc ?_ _)); exact BK216.out⟩, ⟨by (with_reducible repeat (first | refine blk_drewN ?_ _ | refine blk_drew ?_ | refine blk_alloc ?_ _)); exact BK232.out⟩, ⟨by repeat (first | (with_reducible first | exact HB.out | apply below_alloc | apply pw_below_drewN | apply below_drew1 | refine below_set ?_ GE215.out | refine below_set ?_ GE216.out | refine below_set ?_ GE232.out) | exact HB.out)⟩⟩
                ·rw [if_neg c75] at H
                 have c75b0 : decide (x106_3 < (wrap64 ((wrap64 (Int.tdiv (wrap64 ((rd l0_0 (ji45)) - a1)) a2)) + 1))) = false := decide_eq_false c75
                 clear c75
                 have H' := Aside0.mk H
                 clear H
                 go_wp2
                 repeat (go_quiet (fail); try go_wp2)
                 go_roundg k3
                 case measure => have := HJ4.out; have := HK2.out; have := HK3.out; omega
                 case rel => exact ⟨(wrap64 (x102_2 + 1)), (x233001_3), (u233001), (by first | rfl | (simp; done) | (simp [*]; done)), H', ⟨by have := HJ4.out; have := HK2.out; have := HK3.out; omega⟩, ⟨by (with_reducible repeat (first | apply Kd.R_alloc | apply Kd.R_drewN | apply Kd.R_drew)); exact HO_233000.out⟩, ⟨by (with_reducible repeat (first | apply Kd.R_alloc | apply Kd.R_drewN | apply Kd.R_drew)); exact HO_233001.out⟩, ⟨by (with_reducible repeat (first | refine blk_drewN ?_ _ | refine blk_drew ?_ | refine blk_alloc ?_ _)); exact BK215.out⟩, ⟨by (with_reducible repeat (first | refine blk_drewN ?_ _ | refine blk_drew ?_ | refine blk_alloc ?_ _)); exact BK216.out⟩, ⟨by (with_reducible repeat (first | refine blk_drewN ?_ _ | refine blk_drew ?_ | refine blk_alloc ?_ _)); exact BK232.out⟩, ⟨by repeat (first | (with_reducible first | exact HB.out | apply below_alloc | apply pw_below_drewN | apply below_drew1 | refine below_set ?_ GE215.out | refine below_set ?_ GE216.out | refine below_set ?_ GE232.out) | exact HB.out)⟩⟩
             ·rw [if_neg c74] at H
              have c74b0 : decide (x102_2 < t234) = false := decide_eq_false c74
              clear c74
              simp only [Option.some.injEq, Prod.mk.injEq] at H
              obtain ⟨rfl, rfl⟩ := H
              have hnb100 := NB232_215.out
              have hnc100 := NB215_232.out
              have hnb101 := NB232_216.out
              have hnc101 := NB216_232.out
              have hcz102_0 : wr.cell? ⟨gb232, 0, none⟩ = some (.slice Ao67 y229.length co67) := (blk_cell BK232.out 0).trans rfl
              have hcz102_1 : wr.cell? ⟨gb232, 1, none⟩ = some (u233001) := (blk_cell BK232.out 1).trans rfl
              have hfz102_0 := blk_frozen BK232.out 0
              have hfz102_1 := blk_frozen BK232.out 1
              have hnb103 := NB216_215.out
              have hnc103 := NB215_216.out
              have hcz104_0 : wr.cell? ⟨gb216, 0, none⟩ = some (.slice none 0 0) := (blk_cell BK216.out 0).trans rfl
              have hcz104_1 : wr.cell? ⟨gb216, 1, none⟩ = some (.slice none 0 0) := (blk_cell BK216.out 1).trans rfl
              have hfz104_0 := blk_frozen BK216.out 0
              have hfz104_1 := blk_frozen BK216.out 1
              obtain ⟨Ao105, co105, eo105⟩ := Kd.R_slice HO_233001.out
              subst eo105
              go_wp2
              repeat (go_quiet (fail); try go_wp2)
              refine bodyPost_ret (results_cell_row rfl _ _ gb216 39 #[.slice Ao67 y229.length co67, .slice Ao105 x233001_2.length co105] (0, 0) _ rfl (by (with_reducible repeat (first | refine blk_drewN ?_ _ | refine blk_drew ?_ | refine blk_alloc ?_ _)); refine blk_put (cs := #[.slice Ao67 y229.length co67, .slice none 0 0]) ?_ 1 _ rfl; (with_reducible repeat (first | refine blk_drewN ?_ _ | refine blk_drew ?_ | refine blk_alloc ?_ _)); refine blk_put (cs := #[.slice none 0 0, .slice none 0 0]) ?_ 0 _ rfl; (with_reducible repeat (first | refine blk_drewN ?_ _ | refine blk_drew ?_ | refine blk_alloc ?_ _)); exact BK216.out) Try.underlying39 rfl (by kernel_rfl)) rfl ?_
              exact ⟨_, _, by first | rfl | (simp [errW_none, errW_some] <;> rfl) | (simp only [← hji45, ← hji48]; first | rfl | (simp [errW_none, errW_some] <;> rfl)) | (simp [*, errW_none, errW_some] <;> rfl), by (with_reducible repeat (first | apply Kd.R_alloc | apply Kd.R_drewN | apply Kd.R_drew)); exact Kd.R_mono (Kd.R_far (p := ⟨gb216, 1, none⟩) (Kd.R_far (p := ⟨gb216, 0, none⟩) (Kd.R_types HO_233000.out BK216.out (by decide)) (fun _ hk => hk.2) (.slice Ao67 y229.length co67)) (fun _ hk => hk.2) (.slice Ao105 x233001_2.length co105)) (fun _ hk => hk.1), by (with_reducible repeat (first | apply Kd.R_alloc | apply Kd.R_drewN | apply Kd.R_drew)); exact Kd.R_mono (Kd.R_far (p := ⟨gb216, 1, none⟩) (Kd.R_far (p := ⟨gb216, 0, none⟩) (Kd.R_types HO_233001.out BK216.out (by decide)) (fun _ hk => hk.2) (.slice Ao67 y229.length co67)) (fun _ hk => hk.2) (.slice Ao105 x233001_2.length co105)) (fun _ hk => hk.1), by repeat (first | (with_reducible first | exact HB.out | apply below_alloc | apply pw_below_drewN | apply below_drew1 | refine below_set ?_ GE215.out | refine below_set ?_ GE216.out | refine below_set ?_ GE232.out) | exact HB.out)⟩
          ·rw [if_neg c55] at H
           exact absurd H (by simp)
         ·rw [if_neg c53] at H
          exact absurd H (by simp)
       ·rw [if_neg c50] at H
        exact absurd H (by simp)
      ·rw [if_neg c49] at H
       exact absurd H (by simp)
     ·rw [if_neg c47] at H
      exact absurd H (by simp)
    ·rw [if_neg c46] at H
     exact absurd H (by simp)

end Go.Proofs.Ytcpemdedmepfeaa.PFnExactSumPool
