-- Printed out of the translation, hand-written contracts beside it; checked by the kernel alone.
import Derived.Test.YtkgknnhecbbfgabPFnExactMaxPoolx0
import Derived.Test.YtkgknnhecbbfgabPFnExactMaxPoolx1
import Derived.Test.YtkgknnhecbbfgabPFnExactMaxPoolx2
namespace Go.Proofs.Ytkgknnhecbbfgab.PFnExactMaxPool
open Go.RowKit Go.Proofs.YtkgknnhecbbfgabW.PrintWords Go.Proofs.YtkgknnhecbbfgabW.PrintLast Go.Proofs.YtkgknnhecbbfgabW.PrintMore
attribute [local go_sem] max2_int min2_int max_two min_two max_three min_three max_four min_four   -- for this text's walks alone
set_option linter.unusedVariables false
set_option linter.unusedSimpArgs false
theorem Ω1_3 : type_of% @Kd.R_alloc := @Kd.R_alloc
theorem Ω2_3 : type_of% @Kd.R_drewN := @Kd.R_drewN
theorem Ω3_3 : type_of% @Kd.R_drew := @Kd.R_drew
theorem Ω5_3 : type_of% @Aside0.mk := @Aside0.mk
theorem Ω6_3 : type_of% @below_alloc := @below_alloc
theorem Ω7_3 : type_of% @pw_below_drewN := @pw_below_drewN
theorem Ω8_3 : type_of% @below_drew1 := @below_drew1
theorem Ω9_3 : type_of% @below_set := @below_set
theorem ΩA_3 : type_of% @blk_drewN := @blk_drewN
theorem ΩB_3 : type_of% @blk_alloc := @blk_alloc
theorem ΩC_3 : type_of% @blk_drew := @blk_drew
theorem ΩS_3 : type_of% @of_decide_eq_true := @of_decide_eq_true

/-! ### spec_l5Pool: function 58 -/
mutual
def spec_l5Pool.j0 : Nat → Int → Int → Int → Bool → List Int → List Int → Option (List Int × List Int)
 | 0, _, _, _, _, _, _ => none
 | k + 1, x1, x2, x9, x27, x147000, x147001 => if x27 = true then (some (([] : List Int), ([] : List Int))) else (if 0 ≤ (wrap64 (x9 - 2)) then (if (wrap64 (x9 - 2)) < (x147000.length : Int) then ((spec_l5Out.f k (rd x147000 (wrap64 (x9 - 2))) x1 x2).bind fun t150 => (if 0 ≤ (wrap64 (x9 - 1)) then (if (wrap64 (x9 - 1)) < (x147000.length : Int) then ((spec_l5Out.f k (rd x147000 (wrap64 (x9 - 1))) x1 x2).bind fun t152 => (if t150 = 0 then (spec_l5Pool.j1 k x1 x2 x9 t150 t152 true x147000 x147001) else (spec_l5Pool.j1 k x1 x2 x9 t150 t152 (t152 == 0) x147000 x147001))) else (none)) else (none))) else (none)) else (none))
def spec_l5Pool.j1 : Nat → Int → Int → Int → Int → Int → Bool → List Int → List Int → Option (List Int × List Int)
 | 0, _, _, _, _, _, _, _, _ => none
 | k + 1, x1, x2, x9, x10, x11, x52, x147000, x147001 => if x52 = true then (some (([] : List Int), ([] : List Int))) else ((spec_l4With.f x147000 (wrap64 (x9 - 2)) x10).bind fun t153 => ((spec_l4With.f t153 (wrap64 (x9 - 1)) x11).bind fun t156 => ((spec_l4New.f k t156).bind fun bt159 => (spec_l5Pool.l0 k x1 x2 x9 0 x147000 x147001 bt159.1 bt159.2))))
def spec_l5Pool.l0 : Nat → Int → Int → Int → Int → List Int → List Int → List Int → List Int → Option (List Int × List Int)
 | 0, _, _, _, _, _, _, _, _ => none
 | k + 1, x1, x2, x9, x13, x147000, x147001, x166000, x166001 => if x13 < (x166001.length : Int) then ((spec_l3Index.f k x166000 x13).bind fun t166 => (spec_l5Pool.l1 k x1 x2 x9 x13 t166 0 x147000 x147001 x166000 x166001)) else (some (x166000, x166001))
def spec_l5Pool.l1 : Nat → Int → Int → Int → Int → List Int → Int → List Int → List Int → List Int → List Int → Option (List Int × List Int)
 | 0, _, _, _, _, _, _, _, _, _, _ => none
 | k + 1, x1, x2, x9, x13, x14, x15, x147000, x147001, x166000, x166001 => if x15 < x1 then (spec_l5Pool.l2 k x1 x2 x9 x13 x14 x15 0 x147000 x147001 x166000 x166001) else (spec_l5Pool.l0 k x1 x2 x9 (wrap64 (x13 + 1)) x147000 x147001 x166000 x166001)
def spec_l5Pool.l2 : Nat → Int → Int → Int → Int → List Int → Int → Int → List Int → List Int → List Int → List Int → Option (List Int × List Int)
 | 0, _, _, _, _, _, _, _, _, _, _, _ => none
 | k + 1, x1, x2, x9, x13, x14, x15, x16, x147000, x147001, x166000, x166001 => if x16 < x1 then (if 0 ≤ (wrap64 (x9 - 2)) then (if (wrap64 (x9 - 2)) < (x14.length : Int) then ((spec_l4With.f x14 (wrap64 (x9 - 2)) (wrap64 ((wrap64 ((rd x14 (wrap64 (x9 - 2))) * x2)) + x15))).bind fun t170 => (if 0 ≤ (wrap64 (x9 - 1)) then (if (wrap64 (x9 - 1)) < (x14.length : Int) then ((spec_l4With.f t170 (wrap64 (x9 - 1)) (wrap64 ((wrap64 ((rd x14 (wrap64 (x9 - 1))) * x2)) + x16))).bind fun t174 => ((spec_l4Get.f k x147000 x147001 t174).bind fun t177 => (if (wrap64 (x15 + x16)) = 0 then (if 0 ≤ x13 then (if x13 < (x166001.length : Int) then (spec_l5Pool.l2 k x1 x2 x9 x13 x14 x15 (wrap64 (x16 + 1)) x147000 x147001 x166000 (x166001.set (x13 : Int).toNat t177)) else (none)) else (none)) else ((spec_Signed.f t177).bind fun t178 => (if 0 ≤ x13 then (if x13 < (x166001.length : Int) then ((spec_Signed.f (rd x166001 x13)).bind fun t180 => (if t178 > t180 then (spec_l5Pool.l2 k x1 x2 x9 x13 x14 x15 (wrap64 (x16 + 1)) x147000 x147001 x166000 (x166001.set (x13 : Int).toNat t177)) else (spec_l5Pool.l2 k x1 x2 x9 x13 x14 x15 (wrap64 (x16 + 1)) x147000 x147001 x166000 x166001))) else (none)) else (none)))))) else (none)) else (none))) else (none)) else (none)) else (spec_l5Pool.l1 k x1 x2 x9 x13 x14 (wrap64 (x15 + 1)) x147000 x147001 x166000 x166001)
end
def spec_l5Pool.f (k : Nat) (l0_0 : List Int) (l0_1 : List Int) (a1 : Int) (a2 : Int) (a3 : Bool) : Option (List Int × List Int) := (spec_TensorOk.f k l0_0 l0_1).bind fun t148 => (if t148 = true then (spec_l5Pool.j0 k a1 a2 (l0_0.length : Int) (decide ((l0_0.length : Int) < 2)) l0_0 l0_1) else (spec_l5Pool.j0 k a1 a2 (l0_0.length : Int) true l0_0 l0_1))
theorem spec_l5Pool.mono_l : ∀ k, (∀ y0 y1 y2 y3 y4 y5, LeO (spec_l5Pool.j0 k y0 y1 y2 y3 y4 y5) (spec_l5Pool.j0 (k + 1) y0 y1 y2 y3 y4 y5)) ∧ (∀ y0 y1 y2 y3 y4 y5 y6 y7, LeO (spec_l5Pool.j1 k y0 y1 y2 y3 y4 y5 y6 y7) (spec_l5Pool.j1 (k + 1) y0 y1 y2 y3 y4 y5 y6 y7)) ∧ (∀ y0 y1 y2 y3 y4 y5 y6 y7, LeO (spec_l5Pool.l0 k y0 y1 y2 y3 y4 y5 y6 y7) (spec_l5Pool.l0 (k + 1) y0 y1 y2 y3 y4 y5 y6 y7)) ∧ (∀ y0 y1 y2 y3 y4 y5 y6 y7 y8 y9, LeO (spec_l5Pool.l1 k y0 y1 y2 y3 y4 y5 y6 y7 y8 y9) (spec_l5Pool.l1 (k + 1) y0 y1 y2 y3 y4 y5 y6 y7 y8 y9)) ∧ (∀ y0 y1 y2 y3 y4 y5 y6 y7 y8 y9 y10, LeO (spec_l5Pool.l2 k y0 y1 y2 y3 y4 y5 y6 y7 y8 y9 y10) (spec_l5Pool.l2 (k + 1) y0 y1 y2 y3 y4 y5 y6 y7 y8 y9 y10))
 | 0 => ⟨fun _ _ _ _ _ _ r h => by simp [spec_l5Pool.j0] at h, fun _ _ _ _ _ _ _ _ r h => by simp [spec_l5Pool.j1] at h, fun _ _ _ _ _ _ _ _ r h => by simp [spec_l5Pool.l0] at h, fun _ _ _ _ _ _ _ _ _ _ r h => by simp [spec_l5Pool.l1] at h, fun _ _ _ _ _ _ _ _ _ _ _ r h => by simp [spec_l5Pool.l2] at h⟩
 | k + 1 => by
  obtain ⟨ih0, ih1, ih2, ih3, ih4⟩ := spec_l5Pool.mono_l k
  refine ⟨?_, ?_, ?_, ?_, ?_⟩
  ·intro y0 y1 y2 y3 y4 y5
   unfold spec_l5Pool.j0
   repeat' first
   | (with_reducible exact ih0 _ _ _ _ _ _)
   | (with_reducible exact ih1 _ _ _ _ _ _ _ _)
   | (with_reducible exact ih2 _ _ _ _ _ _ _ _)
   | (with_reducible exact ih3 _ _ _ _ _ _ _ _ _ _)
   | (with_reducible exact ih4 _ _ _ _ _ _ _ _ _ _ _)
   | (with_reducible exact spec_TensorOk.mono _ _ _)
   | (with_reducible exact spec_l3Index.mono _ _ _)
   | (with_reducible exact spec_l4Get.mono _ _ _ _)
   | (with_reducible exact spec_l4New.mono _ _)
   | (with_reducible exact spec_l5Out.mono _ _ _ _)
   | (with_reducible exact LeO.refl _)
   | (with_reducible exact LeO.none _)
   | (with_reducible refine LeO.ite ?_ ?_)
   | (with_reducible refine LeO.bind ?_ (fun _ => ?_))
   | exact ih0 _ _ _ _ _ _
   | exact ih1 _ _ _ _ _ _ _ _
   | exact ih2 _ _ _ _ _ _ _ _
   | exact ih3 _ _ _ _ _ _ _ _ _ _
   | exact ih4 _ _ _ _ _ _ _ _ _ _ _
   | exact spec_TensorOk.mono _ _ _
   | exact spec_l3Index.mono _ _ _
   | exact spec_l4Get.mono _ _ _ _
   | exact spec_l4New.mono _ _
   | exact spec_l5Out.mono _ _ _ _
   | exact LeO.none _
   | refine LeO.ite ?_ ?_
   | refine LeO.bind ?_ (fun _ => ?_)
  ·intro y0 y1 y2 y3 y4 y5 y6 y7
   unfold spec_l5Pool.j1
   repeat' first
   | (with_reducible exact ih0 _ _ _ _ _ _)
   | (with_reducible exact ih1 _ _ _ _ _ _ _ _)
   | (with_reducible exact ih2 _ _ _ _ _ _ _ _)
   | (with_reducible exact ih3 _ _ _ _ _ _ _ _ _ _)
   | (with_reducible exact ih4 _ _ _ _ _ _ _ _ _ _ _)
   | (with_reducible exact spec_TensorOk.mono _ _ _)
   | (with_reducible exact spec_l3Index.mono _ _ _)
   | (with_reducible exact spec_l4Get.mono _ _ _ _)
   | (with_reducible exact spec_l4New.mono _ _)
   | (with_reducible exact spec_l5Out.mono _ _ _ _)
   | (with_reducible exact LeO.refl _)
   | (with_reducible exact LeO.none _)
   | (with_reducible refine LeO.ite ?_ ?_)
   | (with_reducible refine LeO.bind ?_ (fun _ => ?_))
   | exact ih0 _ _ _ _ _ _
   | exact ih1 _ _ _ _ _ _ _ _
   | exact ih2 _ _ _ _ _ _ _ _
   | exact ih3 _ _ _ _ _ _ _ _ _ _
   | exact ih4 _ _ _ _ _ _ _ _ _ _ _
   | exact spec_TensorOk.mono _ _ _
   | exact spec_l3Index.mono _ _ _
   | exact spec_l4Get.mono _ _ _ _
   | exact spec_l4New.mono _ _
   | exact spec_l5Out.mono _ _ _ _
   | exact LeO.none _
   | refine LeO.ite ?_ ?_
   | refine LeO.bind ?_ (fun _ => ?_)
  ·intro y0 y1 y2 y3 y4 y5 y6 y7
   unfold spec_l5Pool.l0
   repeat' first
   | (with_reducible exact ih0 _ _ _ _ _ _)
   | (with_reducible exact ih1 _ _ _ _ _ _ _ _)
   | (with_reducible exact ih2 _ _ _ _ _ _ _ _)
   | (with_reducible exact ih3 _ _ _ _ _ _ _ _ _ _)
   | (with_reducible exact ih4 _ _ _ _ _ _ _ _ _ _ _)
   | (with_reducible exact spec_TensorOk.mono _ _ _)
   | (with_reducible exact spec_l3Index.mono _ _ _)
   | (with_reducible exact spec_l4Get.mono _ _ _ _)
   | (with_reducible exact spec_l4New.mono _ _)
   | (with_reducible exact spec_l5Out.mono _ _ _ _)
   | (with_reducible exact LeO.refl _)
   | (with_reducible exact LeO.none _)
   | (with_reducible refine LeO.ite ?_ ?_)
   | (with_reducible refine LeO.bind ?_ (fun _ => ?_))
   | exact ih0 _ _ _ _ _ _
   | exact ih1 _ _ _ _ _ _ _ _
   | exact ih2 _ _ _ _ _ _ _ _
   | exact ih3 _ _ _ _ _ _ _ _ _ _
   | exact ih4 _ _ _ _ _ _ _ _ _ _ _
   | exact spec_TensorOk.mono _ _ _
   | exact spec_l3Index.mono _ _ _
   | exact spec_l4Get.mono _ _ _ _
   | exact spec_l4New.mono _ _
   | exact spec_l5Out.mono _ _ _ _
   | exact LeO.none _
   | refine LeO.ite ?_ ?_
   | refine LeO.bind ?_ (fun _ => ?_)
  ·intro y0 y1 y2 y3 y4 y5 y6 y7 y8 y9
   unfold spec_l5Pool.l1
   repeat' first
   | (with_reducible exact ih0 _ _ _ _ _ _)
   | (with_reducible exact ih1 _ _ _ _ _ _ _ _)
   | (with_reducible exact ih2 _ _ _ _ _ _ _ _)
   | (with_reducible exact ih3 _ _ _ _ _ _ _ _ _ _)
   | (with_reducible exact ih4 _ _ _ _ _ _ _ _ _ _ _)
   | (with_reducible exact spec_TensorOk.mono _ _ _)
   | (with_reducible exact spec_l3Index.mono _ _ _)
   | (with_reducible exact spec_l4Get.mono _ _ _ _)
   | (with_reducible exact spec_l4New.mono _ _)
   | (with_reducible exact spec_l5Out.mono _ _ _ _)
   | (with_reducible exact LeO.refl _)
   | (with_reducible exact LeO.none _)
   | (with_reducible refine LeO.ite ?_ ?_)
   | (with_reducible refine LeO.bind ?_ (fun _ => ?_))
   | exact ih0 _ _ _ _ _ _
   | exact ih1 _ _ _ _ _ _ _ _
   | exact ih2 _ _ _ _ _ _ _ _
   | exact ih3 _ _ _ _ _ _ _ _ _ _
   | exact ih4 _ _ _ _ _ _ _ _ _ _ _
   | exact spec_TensorOk.mono _ _ _
   | exact spec_l3Index.mono _ _ _
   | exact spec_l4Get.mono _ _ _ _
   | exact spec_l4New.mono _ _
   | exact spec_l5Out.mono _ _ _ _
   | exact LeO.none _
   | refine LeO.ite ?_ ?_
   | refine LeO.bind ?_ (fun _ => ?_)
  ·intro y0 y1 y2 y3 y4 y5 y6 y7 y8 y9 y10
   unfold spec_l5Pool.l2
   repeat' first
   | (with_reducible exact ih0 _ _ _ _ _ _)
   | (with_reducible exact ih1 _ _ _ _ _ _ _ _)
   | (with_reducible exact ih2 _ _ _ _ _ _ _ _)
   | (with_reducible exact ih3 _ _ _ _ _ _ _ _ _ _)
   | (with_reducible exact ih4 _ _ _ _ _ _ _ _ _ _ _)
   | (with_reducible exact spec_TensorOk.mono _ _ _)
   | (with_reducible exact spec_l3Index.mono _ _ _)
   | (with_reducible exact spec_l4Get.mono _ _ _ _)
   | (with_reducible exact spec_l4New.mono _ _)
   | (with_reducible exact spec_l5Out.mono _ _ _ _)
   | (with_reducible exact LeO.refl _)
   | (with_reducible exact LeO.none _)
   | (with_reducible refine LeO.ite ?_ ?_)
   | (with_reducible refine LeO.bind ?_ (fun _ => ?_))
   | exact ih0 _ _ _ _ _ _
   | exact ih1 _ _ _ _ _ _ _ _
   | exact ih2 _ _ _ _ _ _ _ _
   | exact ih3 _ _ _ _ _ _ _ _ _ _
   | exact ih4 _ _ _ _ _ _ _ _ _ _ _
   | exact spec_TensorOk.mono _ _ _
   | exact spec_l3Index.mono _ _ _
   | exact spec_l4Get.mono _ _ _ _
   | exact spec_l4New.mono _ _
   | exact spec_l5Out.mono _ _ _ _
   | exact LeO.none _
   | refine LeO.ite ?_ ?_
   | refine LeO.bind ?_ (fun _ => ?_)
theorem spec_l5Pool.mono : ∀ a0 a1 a2 a3 a4 k, LeO (spec_l5Pool.f k a0 a1 a2 a3 a4) (spec_l5Pool.f (k + 1) a0 a1 a2 a3 a4) := by
 intro a0 a1 a2 a3 a4 k
 obtain ⟨ih0, ih1, ih2, ih3, ih4⟩ := spec_l5Pool.mono_l k
 unfold spec_l5Pool.f
 repeat' first
   | (with_reducible exact ih0 _ _ _ _ _ _)
   | (with_reducible exact ih1 _ _ _ _ _ _ _ _)
   | (with_reducible exact ih2 _ _ _ _ _ _ _ _)
   | (with_reducible exact ih3 _ _ _ _ _ _ _ _ _ _)
   | (with_reducible exact ih4 _ _ _ _ _ _ _ _ _ _ _)
   | (with_reducible exact spec_TensorOk.mono _ _ _)
   | (with_reducible exact spec_l3Index.mono _ _ _)
   | (with_reducible exact spec_l4Get.mono _ _ _ _)
   | (with_reducible exact spec_l4New.mono _ _)
   | (with_reducible exact spec_l5Out.mono _ _ _ _)
   | (with_reducible exact LeO.refl _)
   | (with_reducible exact LeO.none _)
   | (with_reducible refine LeO.ite ?_ ?_)
   | (with_reducible refine LeO.bind ?_ (fun _ => ?_))
   | exact ih0 _ _ _ _ _ _
   | exact ih1 _ _ _ _ _ _ _ _
   | exact ih2 _ _ _ _ _ _ _ _
   | exact ih3 _ _ _ _ _ _ _ _ _ _
   | exact ih4 _ _ _ _ _ _ _ _ _ _ _
   | exact spec_TensorOk.mono _ _ _
   | exact spec_l3Index.mono _ _ _
   | exact spec_l4Get.mono _ _ _ _
   | exact spec_l4New.mono _ _
   | exact spec_l5Out.mono _ _ _ _
   | exact LeO.none _
   | refine LeO.ite ?_ ?_
   | refine LeO.bind ?_ (fun _ => ?_)
def spec_l5Pool.T19 : Bool × List (List Nat × List Nat) := (true, [([], []), ([], []), ([], []), ([2], [2]), ([], []), ([], []), ([5], [5]), ([4, 6], [4, 6]), ([7], [7]), ([], []), ([8, 9], [8, 9]), ([], []), ([10, 11], [10, 11]), ([1, 3, 12], [1, 3, 12]), ([], []), ([14], [14]), ([], []), ([], []), ([17], [17]), ([16, 18], [16, 18]), ([19], [19]), ([], []), ([20, 21], [20, 21]), ([], []), ([22, 23], [22, 23]), ([13, 15, 24, 13], [13, 15, 24]), ([0, 25, 25], [0, 25]), ([26, 26, 0, 1, 2, 3, 4, 5, 6, 7, 8, 9, 10, 11, 12, 13, 14, 15, 16, 17, 18, 19, 20, 21, 22, 23, 24, 25, 26], [26])])
def spec_l5Pool.B19 : List Nat := [0, 0, 0, 4, 0, 0, 32, 112, 240, 0, 1008, 0, 4080, 8190, 0, 16384, 0, 0, 131072, 458752, 983040, 0, 4128768, 0, 16711680, 33554430, 67108863, 134217727]
theorem spec_l5Pool.tab19 : rtab .any (opsOf Try.f58 19) = spec_l5Pool.T19 := by kernel_rfl
theorem spec_l5Pool.bits19 : waitsOk spec_l5Pool.T19.2 spec_l5Pool.B19 = true := by kernel_rfl
def spec_l5Pool.T22 : Bool × List (List Nat × List Nat) := (true, [([], []), ([], []), ([0, 1], [0, 1]), ([2], [2]), ([3], [3]), ([4], [4]), ([5, 4, 4], [4, 5]), ([4], [4]), ([7, 4], [4, 7]), ([4], [4]), ([8, 9, 4], [4, 8, 9]), ([10, 4], [4, 10]), ([11, 6, 4], [4, 11]), ([6, 12, 4], [4, 6, 12]), ([4, 13], [4, 13])])
def spec_l5Pool.B22 : List Nat := [0, 0, 3, 7, 15, 31, 63, 31, 159, 31, 927, 1951, 4095, 8191, 16383]
theorem spec_l5Pool.tab22 : rtab .any (opsOf Try.f58 22) = spec_l5Pool.T22 := by kernel_rfl
theorem spec_l5Pool.bits22 : waitsOk spec_l5Pool.T22.2 spec_l5Pool.B22 = true := by kernel_rfl
set_option maxHeartbeats 8000000 in
set_option maxRecDepth 100000 in
theorem spec_l5Pool.calls (k : Nat) (A0_0 : Option Addr) (c0_0 : Nat) (l0_0 : List Int) (A0_1 : Option Addr) (c0_1 : Nat) (l0_1 : List Int) (a1 : Int) (a2 : Int) (a3 : Bool) (r1 : List Int) (r2 : List Int) (w : World) (hr0_0 : Kd.C (Kd.int .i64) w A0_0 l0_0.length l0_0) (hc0_0 : l0_0.length ≤ c0_0) (hr0_1 : Kd.C (Kd.int .i64) w A0_1 l0_1.length l0_1) (hc0_1 : l0_1.length ≤ c0_1) (h : spec_l5Pool.f k l0_0 l0_1 a1 a2 a3 = some (r1, r2)) :
  Calls Try.prog 58 #[.agg #[.slice A0_0 l0_0.length c0_0, .slice A0_1 l0_1.length c0_1], .int .i64 a1, .int .i64 a2, .bool true] w fun e w' => ∃ v0_ v1_ : Value, e = .returned (.agg #[v0_, v1_]) ∧ Kd.R (Kd.int .i64) 3 w' w.heap.size (fun k_ => some k_ ≠ (v1_ : Value).ownBlock) v0_ r1 ∧ Kd.R (Kd.int .i64) 3 w' w.heap.size (fun k_ => some k_ ≠ (v0_ : Value).ownBlock) v1_ r2 ∧ Below w.heap.size w w' := by
 have hu56 := Try.underlying56
 have HR0_0 := Ω5_3 hr0_0
 have HC0_0 := Ω5_3 hc0_0
 clear hr0_0 hc0_0
 have HR0_1 := Ω5_3 hr0_1
 have HC0_1 := Ω5_3 hc0_1
 clear hr0_1 hc0_1
 have HB := Ω5_3 (Below.refl w.heap.size w)
 have H : ((spec_TensorOk.f k l0_0 l0_1).bind fun t148 => (if t148 = true then (spec_l5Pool.j0 k a1 a2 (l0_0.length : Int) (decide ((l0_0.length : Int) < 2)) l0_0 l0_1) else (spec_l5Pool.j0 k a1 a2 (l0_0.length : Int) true l0_0 l0_1))) = some (r1, r2) := h
 clear h
 have HC5 := Ω5_3 H
 clear H
 go_enter Try.func58, Try.ntmps58
 go_upto_region 2 with (first | ((with_reducible refine gate_dst (N := 4) rfl ?_); refine box_event ?hg (N := 4) ?hd (cs := #[.slice A0_0 l0_0.length c0_0, .slice A0_1 l0_1.length c0_1]) (t := 56) ?hr ?_; (case hd => rfl); (case hg => rfl); (case hr => first | (go_simp; done) | (go_simp; rfl)); intro gb146 hg w6 hbox hb; have n0_ := Ω5_3 (below_step (by repeat (first | (with_reducible first | exact HB.out | apply Ω6_3 | apply Ω7_3 | apply Ω8_3) | exact HB.out)) hb); have n1_ := Ω5_3 (hbox); have n2_ := Ω5_3 ((by rw [hg]; exact (below_size (by repeat (first | (with_reducible first | exact HB.out | apply Ω6_3 | apply Ω7_3 | apply Ω8_3) | exact HB.out))) : w.heap.size ≤ gb146)); have n3_ := Ω5_3 ((by rw [hg]; exact (below_size (by repeat (first | (with_reducible first | exact HB.out | apply Ω6_3 | apply Ω7_3 | apply Ω8_3) | exact HB.out))) : w.heap.size ≤ gb146)); clear HB; have HB := n0_; have BK146 := n1_; have GW146 := n2_; have GE146 := n3_; clear n0_ n1_ n2_ n3_; clear hb hbox hg) | ((with_reducible refine gate_dst (N := 8) rfl ?_); refine box_event ?hg (N := 8) ?hd (cs := #[.slice none 0 0, .slice none 0 0]) (t := 56) ?hr ?_; (case hd => rfl); (case hg => rfl); (case hr => first | (go_simp; done) | (go_simp; rfl)); intro gb147 hg w7 hbox hb; have n0_ := Ω5_3 (blk_below (g := gb146) (o := .cells #[.slice A0_0 l0_0.length c0_0, .slice A0_1 l0_1.length c0_1] 56 (0, 0)) (by (with_reducible repeat (first | refine ΩA_3 ?_ _ | refine ΩC_3 ?_ | refine ΩB_3 ?_ _)); exact BK146.out) hb); have n1_ := Ω5_3 (below_step (by repeat (first | (with_reducible first | exact HB.out | apply Ω6_3 | apply Ω7_3 | apply Ω8_3 | refine Ω9_3 ?_ GE146.out) | exact HB.out)) hb); have n2_ := Ω5_3 (hbox); have n3_ := Ω5_3 ((by rw [hg]; exact (below_size (by repeat (first | (with_reducible first | exact HB.out | apply Ω6_3 | apply Ω7_3 | apply Ω8_3 | refine Ω9_3 ?_ GE146.out) | exact HB.out))) : w.heap.size ≤ gb147)); have n4_ := Ω5_3 ((by rw [hg]; exact (below_size (by repeat (first | (with_reducible first | exact HB.out | apply Ω6_3 | apply Ω7_3 | apply Ω8_3 | refine Ω9_3 ?_ GE146.out) | exact HB.out))) : w.heap.size ≤ gb147)); have n5_ := Ω5_3 ((by rw [hg]; exact Nat.ne_of_lt (blk_lt (g := gb146) (o := .cells #[.slice A0_0 l0_0.length c0_0, .slice A0_1 l0_1.length c0_1] 56 (0, 0)) (by (with_reducible repeat (first | refine ΩA_3 ?_ _ | refine ΩC_3 ?_ | refine ΩB_3 ?_ _)); exact BK146.out)) : gb146 ≠ gb147)); have n6_ := Ω5_3 ((by rw [hg]; exact Nat.ne_of_gt (blk_lt (g := gb146) (o := .cells #[.slice A0_0 l0_0.length c0_0, .slice A0_1 l0_1.length c0_1] 56 (0, 0)) (by (with_reducible repeat (first | refine ΩA_3 ?_ _ | refine ΩC_3 ?_ | refine ΩB_3 ?_ _)); exact BK146.out)) : gb147 ≠ gb146)); clear BK146; clear HB; have BK146 := n0_; have HB := n1_; have BK147 := n2_; have GW147 := n3_; have GE147 := n4_; have NB146_147 := n5_; have NB147_146 := n6_; clear n0_ n1_ n2_ n3_ n4_ n5_ n6_; clear hb hbox hg; have hnb8 := NB146_147.out; have hnc8 := NB147_146.out; have hcz9_0 : w7.cell? ⟨gb146, 0, none⟩ = some (.slice A0_0 l0_0.length c0_0) := (blk_cell BK146.out 0).trans rfl; have hcz9_1 : w7.cell? ⟨gb146, 1, none⟩ = some (.slice A0_1 l0_1.length c0_1) := (blk_cell BK146.out 1).trans rfl; have hfz9_0 := blk_frozen BK146.out 0; have hfz9_1 := blk_frozen BK146.out 1))
 (try simp only [Act.put, List.setIfInBounds_toArray, List.set_cons_zero, List.set_cons_succ])
 go_cut [27] (fun v27 wc => ∃ (kq : Nat) (x27_4 : Bool), v27 = .bool x27_4 ∧ Aside0 (spec_l5Pool.j0 kq a1 a2 (l0_0.length : Int) x27_4 l0_0 l0_1 = some (r1, r2)) ∧ Aside0 (kq ≤ k) ∧ Aside0 (wc.heap[gb146]? = some (.cells #[(.slice A0_0 l0_0.length c0_0), (.slice A0_1 l0_1.length c0_1)] 56 (0, 0))) ∧ Aside0 (wc.heap[gb147]? = some (.cells #[(.slice none 0 0), (.slice none 0 0)] 56 (0, 0))) ∧ Aside0 (Below w.heap.size w wc))
 case first =>
  have H := HC5.out
  clear HC5
  replace H := Option.bind_eq_some_iff.mp H
  obtain ⟨t148, A100, H⟩ := H
  replace H : (if t148 = true then (spec_l5Pool.j0 k a1 a2 (l0_0.length : Int) (decide ((l0_0.length : Int) < 2)) l0_0 l0_1) else (spec_l5Pool.j0 k a1 a2 (l0_0.length : Int) true l0_0 l0_1)) = some (r1, r2) := H
  have A10 := Ω5_3 A100
  clear A100
  by_cases c11 : t148 = true
  ·subst c11
   have H1 : (spec_l5Pool.j0 k a1 a2 (l0_0.length : Int) (decide ((l0_0.length : Int) < 2)) l0_0 l0_1) = some (r1, r2) := by rw [if_pos rfl] at H; exact H
   clear H;have H := H1;clear H1
   have H' := Ω5_3 H
   clear H;have hnb12 := NB146_147.out;have hnc12 := NB147_146.out;have hcz13_0 : w7.cell? ⟨gb146, 0, none⟩ = some (.slice A0_0 l0_0.length c0_0) := (blk_cell BK146.out 0).trans rfl;have hcz13_1 : w7.cell? ⟨gb146, 1, none⟩ = some (.slice A0_1 l0_1.length c0_1) := (blk_cell BK146.out 1).trans rfl;have hfz13_0 := blk_frozen BK146.out 0;have hfz13_1 := blk_frozen BK146.out 1
   go_wp2_with (first | ((with_reducible refine gate_callee (f := 81) rfl ?_); refine goesL_ (some 22) rfl rfl Try.func81 (by kernel_rfl) rfl #[.agg #[.slice A0_0 l0_0.length c0_0, .slice A0_1 l0_1.length c0_1]] rfl (by (try simp only [List.map_toArray, List.map_cons, List.map_nil]); first | done | rfl | (simp only [List.length_drop, List.length_take]; rfl)) ?_; (with_reducible refine (spec_TensorOk.calls k _ _ l0_0 _ _ l0_1 true _ ?side1 ?side2 ?side3 ?side4 A10.out).mono ?_); (case side1 => repeat (first | exact (Kd.C_below HR0_0.out HB.out) | (with_reducible refine Kd.C_alloc ?_ _) | (with_reducible refine Kd.C_drewN ?_ _) | (with_reducible refine Kd.C_drew ?_))); (case side2 => exact HC0_0.out); (case side3 => repeat (first | exact (Kd.C_below HR0_1.out HB.out) | (with_reducible refine Kd.C_alloc ?_ _) | (with_reducible refine Kd.C_drewN ?_ _) | (with_reducible refine Kd.C_drew ?_))); (case side4 => exact HC0_1.out); rintro e w14 ⟨rfl, hb⟩; refine ⟨_, rfl, ?_⟩; have n0_ := Ω5_3 (blk_below (g := gb146) (o := .cells #[.slice A0_0 l0_0.length c0_0, .slice A0_1 l0_1.length c0_1] 56 (0, 0)) (by (with_reducible repeat (first | refine ΩA_3 ?_ _ | refine ΩC_3 ?_ | refine ΩB_3 ?_ _)); exact BK146.out) hb); have n1_ := Ω5_3 (blk_below (g := gb147) (o := .cells #[.slice none 0 0, .slice none 0 0] 56 (0, 0)) (by (with_reducible repeat (first | refine ΩA_3 ?_ _ | refine ΩC_3 ?_ | refine ΩB_3 ?_ _)); exact BK147.out) hb); have n2_ := Ω5_3 (below_step (by repeat (first | (with_reducible first | exact HB.out | apply Ω6_3 | apply Ω7_3 | apply Ω8_3 | refine Ω9_3 ?_ GE146.out | refine Ω9_3 ?_ GE147.out) | exact HB.out)) hb); clear BK146; clear BK147; clear HB; have BK146 := n0_; have BK147 := n1_; have HB := n2_; clear n0_ n1_ n2_; (try clear hb); (try clear hb2); (try clear hk); (try clear hi)))
   go_meet
   case rel => exact ⟨_, (decide ((l0_0.length : Int) < 2)), (by first | rfl | (simp; done) | (simp [*]; done)), H', ⟨by first | omega | exact Nat.le_refl _⟩, ⟨by (with_reducible repeat (first | refine ΩA_3 ?_ _ | refine ΩC_3 ?_ | refine ΩB_3 ?_ _)); exact BK146.out⟩, ⟨by (with_reducible repeat (first | refine ΩA_3 ?_ _ | refine ΩC_3 ?_ | refine ΩB_3 ?_ _)); exact BK147.out⟩, ⟨by repeat (first | (with_reducible first | exact HB.out | apply Ω6_3 | apply Ω7_3 | apply Ω8_3 | refine Ω9_3 ?_ GE146.out | refine Ω9_3 ?_ GE147.out) | exact HB.out)⟩⟩
  ·replace c11 := Bool.eq_false_iff.mpr c11
   subst c11
   have H1 : (spec_l5Pool.j0 k a1 a2 (l0_0.length : Int) true l0_0 l0_1) = some (r1, r2) := by rw [if_neg (show ¬ (false = true) by decide)] at H; exact H
   clear H;have H := H1;clear H1
   have H' := Ω5_3 H
   clear H;have hnb15 := NB146_147.out;have hnc15 := NB147_146.out;have hcz16_0 : w7.cell? ⟨gb146, 0, none⟩ = some (.slice A0_0 l0_0.length c0_0) := (blk_cell BK146.out 0).trans rfl;have hcz16_1 : w7.cell? ⟨gb146, 1, none⟩ = some (.slice A0_1 l0_1.length c0_1) := (blk_cell BK146.out 1).trans rfl;have hfz16_0 := blk_frozen BK146.out 0;have hfz16_1 := blk_frozen BK146.out 1
   go_wp2_with (first | ((with_reducible refine gate_callee (f := 81) rfl ?_); refine goesL_ (some 22) rfl rfl Try.func81 (by kernel_rfl) rfl #[.agg #[.slice A0_0 l0_0.length c0_0, .slice A0_1 l0_1.length c0_1]] rfl (by (try simp only [List.map_toArray, List.map_cons, List.map_nil]); first | done | rfl | (simp only [List.length_drop, List.length_take]; rfl)) ?_; (with_reducible refine (spec_TensorOk.calls k _ _ l0_0 _ _ l0_1 false _ ?side1 ?side2 ?side3 ?side4 A10.out).mono ?_); (case side1 => repeat (first | exact (Kd.C_below HR0_0.out HB.out) | (with_reducible refine Kd.C_alloc ?_ _) | (with_reducible refine Kd.C_drewN ?_ _) | (with_reducible refine Kd.C_drew ?_))); (case side2 => exact HC0_0.out); (case side3 => repeat (first | exact (Kd.C_below HR0_1.out HB.out) | (with_reducible refine Kd.C_alloc ?_ _) | (with_reducible refine Kd.C_drewN ?_ _) | (with_reducible refine Kd.C_drew ?_))); (case side4 => exact HC0_1.out); rintro e w17 ⟨rfl, hb⟩; refine ⟨_, rfl, ?_⟩; have n0_ := Ω5_3 (blk_below (g := gb146) (o := .cells #[.slice A0_0 l0_0.length c0_0, .slice A0_1 l0_1.length c0_1] 56 (0, 0)) (by (with_reducible repeat (first | refine ΩA_3 ?_ _ | refine ΩC_3 ?_ | refine ΩB_3 ?_ _)); exact BK146.out) hb); have n1_ := Ω5_3 (blk_below (g := gb147) (o := .cells #[.slice none 0 0, .slice none 0 0] 56 (0, 0)) (by (with_reducible repeat (first | refine ΩA_3 ?_ _ | refine ΩC_3 ?_ | refine ΩB_3 ?_ _)); exact BK147.out) hb); have n2_ := Ω5_3 (below_step (by repeat (first | (with_reducible first | exact HB.out | apply Ω6_3 | apply Ω7_3 | apply Ω8_3 | refine Ω9_3 ?_ GE146.out | refine Ω9_3 ?_ GE147.out) | exact HB.out)) hb); clear BK146; clear BK147; clear HB; have BK146 := n0_; have BK147 := n1_; have HB := n2_; clear n0_ n1_ n2_; (try clear hb); (try clear hb2); (try clear hk); (try clear hi)))
   go_meet
   case rel => exact ⟨_, (true), (by first | rfl | (simp; done) | (simp [*]; done)), H', ⟨by first | omega | exact Nat.le_refl _⟩, ⟨by (with_reducible repeat (first | refine ΩA_3 ?_ _ | refine ΩC_3 ?_ | refine ΩB_3 ?_ _)); exact BK146.out⟩, ⟨by (with_reducible repeat (first | refine ΩA_3 ?_ _ | refine ΩC_3 ?_ | refine ΩB_3 ?_ _)); exact BK147.out⟩, ⟨by repeat (first | (with_reducible first | exact HB.out | apply Ω6_3 | apply Ω7_3 | apply Ω8_3 | refine Ω9_3 ?_ GE146.out | refine Ω9_3 ?_ GE147.out) | exact HB.out)⟩⟩
 case rest =>
  clear HC5
  try clear c1
  try clear p2
  try clear c5
  try clear c8
  try clear c11
  try clear c12
  try clear c15
  try clear hcz13_0
  try clear hcz13_1
  try clear hcz16_0
  try clear hcz16_1
  try clear hcz9_0
  try clear hcz9_1
  try clear hfz13_0
  try clear hfz13_1
  try clear hfz16_0
  try clear hfz16_1
  try clear hfz9_0
  try clear hfz9_1
  obtain ⟨kq, x27_4, rfl, HA, HJ4, BK146, BK147, HB⟩ := hcut
  cases kq with
  | zero => exact absurd HA.out (by simp [spec_l5Pool.j0])
  | succ kj4 =>
   have H := HA.out;clear HA
   simp only [spec_l5Pool.j0] at H
   by_cases c18 : x27_4 = true
   ·subst c18
    have H1 : (some (([] : List Int), ([] : List Int))) = some (r1, r2) := by rw [if_pos rfl] at H; exact H
    clear H;have H := H1;clear H1
    simp only [Option.some.injEq, Prod.mk.injEq] at H
    obtain ⟨rfl, rfl⟩ := H
    have hnb19 := NB147_146.out;have hnc19 := NB146_147.out;have hcz20_0 : wc.cell? ⟨gb147, 0, none⟩ = some (.slice none 0 0) := (blk_cell BK147.out 0).trans rfl;have hcz20_1 : wc.cell? ⟨gb147, 1, none⟩ = some (.slice none 0 0) := (blk_cell BK147.out 1).trans rfl;have hfz20_0 := blk_frozen BK147.out 0;have hfz20_1 := blk_frozen BK147.out 1
    go_wp2
    refine bodyPost_ret (results_cell_row rfl _ _ gb147 56 #[.slice none 0 0, .slice none 0 0] (0, 0) _ rfl (by (with_reducible repeat (first | refine ΩA_3 ?_ _ | refine ΩC_3 ?_ | refine ΩB_3 ?_ _)); refine blk_put (cs := #[.slice none 0 0, .slice none 0 0]) ?_ 1 _ rfl; (with_reducible repeat (first | refine ΩA_3 ?_ _ | refine ΩC_3 ?_ | refine ΩB_3 ?_ _)); refine blk_put (cs := #[.slice none 0 0, .slice none 0 0]) ?_ 0 _ rfl; (with_reducible repeat (first | refine ΩA_3 ?_ _ | refine ΩC_3 ?_ | refine ΩB_3 ?_ _)); exact BK147.out) Try.underlying56 rfl (by kernel_rfl)) rfl ?_
    exact ⟨_, _, by first | rfl | (simp [errW_none, errW_some] <;> rfl) | (simp [*, errW_none, errW_some] <;> rfl), by first | exact Kd.R_nil _ _ _ _ _ | exact Kd.N_nil _ _ _ _ _ | exact Kd.V_nil _ _ _ _ _ | exact Kd.Q_nil _ _ _ _ _ | exact Kd.S_nil _ _ _ _ _, by first | exact Kd.R_nil _ _ _ _ _ | exact Kd.N_nil _ _ _ _ _ | exact Kd.V_nil _ _ _ _ _ | exact Kd.Q_nil _ _ _ _ _ | exact Kd.S_nil _ _ _ _ _, by repeat (first | (with_reducible first | exact HB.out | apply Ω6_3 | apply Ω7_3 | apply Ω8_3 | refine Ω9_3 ?_ GE146.out | refine Ω9_3 ?_ GE147.out) | exact HB.out)⟩
   ·replace c18 := Bool.eq_false_iff.mpr c18
    subst c18
    have H1 : (if 0 ≤ (wrap64 ((l0_0.length : Int) - 2)) then (if (wrap64 ((l0_0.length : Int) - 2)) < (l0_0.length : Int) then ((spec_l5Out.f kj4 (rd l0_0 (wrap64 ((l0_0.length : Int) - 2))) a1 a2).bind fun t150 => (if 0 ≤ (wrap64 ((l0_0.length : Int) - 1)) then (if (wrap64 ((l0_0.length : Int) - 1)) < (l0_0.length : Int) then ((spec_l5Out.f kj4 (rd l0_0 (wrap64 ((l0_0.length : Int) - 1))) a1 a2).bind fun t152 => (if t150 = 0 then (spec_l5Pool.j1 kj4 a1 a2 (l0_0.length : Int) t150 t152 true l0_0 l0_1) else (spec_l5Pool.j1 kj4 a1 a2 (l0_0.length : Int) t150 t152 (t152 == 0) l0_0 l0_1))) else (none)) else (none))) else (none)) else (none)) = some (r1, r2) := by rw [if_neg (show ¬ (false = true) by decide)] at H; exact H
    clear H;have H := H1;clear H1
    obtain ⟨ji21, hji21⟩ : ∃ j_ : Int, (wrap64 ((l0_0.length : Int) - 2)) = j_ := ⟨_, rfl⟩
    replace H : (if 0 ≤ (ji21) then (if (ji21) < (l0_0.length : Int) then ((spec_l5Out.f kj4 (rd l0_0 (ji21)) a1 a2).bind fun t150 => (if 0 ≤ (wrap64 ((l0_0.length : Int) - 1)) then (if (wrap64 ((l0_0.length : Int) - 1)) < (l0_0.length : Int) then ((spec_l5Out.f kj4 (rd l0_0 (wrap64 ((l0_0.length : Int) - 1))) a1 a2).bind fun t152 => (if t150 = 0 then (spec_l5Pool.j1 kj4 a1 a2 (l0_0.length : Int) t150 t152 true l0_0 l0_1) else (spec_l5Pool.j1 kj4 a1 a2 (l0_0.length : Int) t150 t152 (t152 == 0) l0_0 l0_1))) else (none)) else (none))) else (none)) else (none)) = some (r1, r2) := by first | (rw [hji21] at H; exact H) | (simp only [hji21] at H ⊢; exact H)
    have hji21w : (IntKind.i64.wrap ((l0_0.length : Int) - 2)) = ji21 := (i64_w _).trans hji21
    by_cases c22 : 0 ≤ (ji21)
    ·rw [if_pos c22] at H
     have c22b0 : decide (0 ≤ (ji21)) = true := decide_eq_true c22
     clear c22
     by_cases c23 : (ji21) < (l0_0.length : Int)
     ·rw [if_pos c23] at H
      have c23b0 : decide ((ji21) < (l0_0.length : Int)) = true := decide_eq_true c23
      clear c23
      replace H := Option.bind_eq_some_iff.mp H
      obtain ⟨t150, A240, H⟩ := H
      replace H : (if 0 ≤ (wrap64 ((l0_0.length : Int) - 1)) then (if (wrap64 ((l0_0.length : Int) - 1)) < (l0_0.length : Int) then ((spec_l5Out.f kj4 (rd l0_0 (wrap64 ((l0_0.length : Int) - 1))) a1 a2).bind fun t152 => (if t150 = 0 then (spec_l5Pool.j1 kj4 a1 a2 (l0_0.length : Int) t150 t152 true l0_0 l0_1) else (spec_l5Pool.j1 kj4 a1 a2 (l0_0.length : Int) t150 t152 (t152 == 0) l0_0 l0_1))) else (none)) else (none)) = some (r1, r2) := H
      have A24 := Ω5_3 A240
      clear A240
      obtain ⟨ji25, hji25⟩ : ∃ j_ : Int, (wrap64 ((l0_0.length : Int) - 1)) = j_ := ⟨_, rfl⟩
      replace H : (if 0 ≤ (ji25) then (if (ji25) < (l0_0.length : Int) then ((spec_l5Out.f kj4 (rd l0_0 (ji25)) a1 a2).bind fun t152 => (if t150 = 0 then (spec_l5Pool.j1 kj4 a1 a2 (l0_0.length : Int) t150 t152 true l0_0 l0_1) else (spec_l5Pool.j1 kj4 a1 a2 (l0_0.length : Int) t150 t152 (t152 == 0) l0_0 l0_1))) else (none)) else (none)) = some (r1, r2) := by first | (rw [hji25] at H; exact H) | (simp only [hji25] at H ⊢; exact H)
      (try rw [hji25] at A24)
      have hji25w : (IntKind.i64.wrap ((l0_0.length : Int) - 1)) = ji25 := (i64_w _).trans hji25
      by_cases c26 : 0 ≤ (ji25)
      ·rw [if_pos c26] at H
       have c26b0 : decide (0 ≤ (ji25)) = true := decide_eq_true c26
       clear c26
       by_cases c27 : (ji25) < (l0_0.length : Int)
       ·rw [if_pos c27] at H
        have c27b0 : decide ((ji25) < (l0_0.length : Int)) = true := decide_eq_true c27
        clear c27
        replace H := Option.bind_eq_some_iff.mp H
        obtain ⟨t152, A280, H⟩ := H
        replace H : (if t150 = 0 then (spec_l5Pool.j1 kj4 a1 a2 (l0_0.length : Int) t150 t152 true l0_0 l0_1) else (spec_l5Pool.j1 kj4 a1 a2 (l0_0.length : Int) t150 t152 (t152 == 0) l0_0 l0_1)) = some (r1, r2) := H
        have A28 := Ω5_3 A280
        clear A280
        have HC29 := Ω5_3 H
        clear H;have hnb30 := NB146_147.out;have hnc30 := NB147_146.out;have hcz31_0 : wc.cell? ⟨gb146, 0, none⟩ = some (.slice A0_0 l0_0.length c0_0) := (blk_cell BK146.out 0).trans rfl;have hcz31_1 : wc.cell? ⟨gb146, 1, none⟩ = some (.slice A0_1 l0_1.length c0_1) := (blk_cell BK146.out 1).trans rfl;have hfz31_0 := blk_frozen BK146.out 0;have hfz31_1 := blk_frozen BK146.out 1
        have p149 : 0 ≤ ((ji21) : Int) := ΩS_3 (by first | (with_reducible assumption) | assumption)
        have q149 : (ji21) < (l0_0.length : Int) := ΩS_3 (by first | (with_reducible assumption) | assumption)
        obtain ⟨ad149, e149, hx149_0⟩ := Kd.at_int HR0_0.out (ji21) p149 q149
        cases e149
        replace hx149_0 := (HB.out.cell (World.block_lt_of_cell? w _ hx149_0)).trans hx149_0
        replace p149 := eq_true p149;replace q149 := eq_true q149
        go_upto_region 6 with (first | ((with_reducible refine gate_callee (f := 82) rfl ?_); refine goesL_ (some 37) rfl rfl Try.func82 (by kernel_rfl) rfl #[.int .i64 (rd l0_0 (ji21)), .int .i64 a1, .int .i64 a2] rfl (by (try simp only [List.map_toArray, List.map_cons, List.map_nil]); first | done | (simp only [hji21]; rfl) | rfl | (simp only [List.length_drop, List.length_take]; rfl)) ?_; (with_reducible refine (spec_l5Out.calls kj4 (rd l0_0 (ji21)) a1 a2 t150 _ A24.out).mono ?_); rintro e w' ⟨rfl, ⟨nd, rfl⟩⟩; refine ⟨_, rfl, ?_⟩; have p151 : 0 ≤ ((ji25) : Int) := ΩS_3 (by first | (with_reducible assumption) | assumption); have q151 : (ji25) < (l0_0.length : Int) := ΩS_3 (by first | (with_reducible assumption) | assumption); obtain ⟨ad151, e151, hx151_0⟩ := Kd.at_int HR0_0.out (ji25) p151 q151; obtain rfl : ad149 = ad151 := (by injection e151); replace hx151_0 := (HB.out.cell (World.block_lt_of_cell? w _ hx151_0)).trans hx151_0; replace p151 := eq_true p151; replace q151 := eq_true q151) | ((with_reducible refine gate_callee (f := 82) rfl ?_); refine goesL_ (some 46) rfl rfl Try.func82 (by kernel_rfl) rfl #[.int .i64 (rd l0_0 (ji25)), .int .i64 a1, .int .i64 a2] rfl (by (try simp only [List.map_toArray, List.map_cons, List.map_nil]); first | done | (simp only [hji25]; rfl) | rfl | (simp only [List.length_drop, List.length_take]; rfl)) ?_; (with_reducible refine (spec_l5Out.calls kj4 (rd l0_0 (ji25)) a1 a2 t152 _ A28.out).mono ?_); rintro e w' ⟨rfl, ⟨nd, rfl⟩⟩; refine ⟨_, rfl, ?_⟩))
        (try simp only [Act.put, List.setIfInBounds_toArray, List.set_cons_zero, List.set_cons_succ])
        go_cut [52] (fun v52 wc => ∃ (kq : Nat) (x52_28 : Bool), v52 = .bool x52_28 ∧ Aside0 (spec_l5Pool.j1 kq a1 a2 (l0_0.length : Int) t150 t152 x52_28 l0_0 l0_1 = some (r1, r2)) ∧ Aside0 (kq ≤ kj4) ∧ Aside0 (wc.heap[gb146]? = some (.cells #[(.slice (some ad149) l0_0.length c0_0), (.slice A0_1 l0_1.length c0_1)] 56 (0, 0))) ∧ Aside0 (wc.heap[gb147]? = some (.cells #[(.slice none 0 0), (.slice none 0 0)] 56 (0, 0))) ∧ Aside0 (Below w.heap.size w wc))
        case first =>
         have H := HC29.out;clear HC29
         by_cases c32 : t150 = 0
         ·rw [if_pos c32] at H
          have c32b0 : (t150 == 0) = true := beq_iff_eq.mpr c32
          have c32b1 : (t150 != 0) = false := bne_eq_false_iff_eq.mpr c32
          clear c32
          (first | rw [c32b0] | (simp only [i64_w, i32_w]; rw [c32b0]) | skip)
          have H' := Ω5_3 H
          clear H
          go_wp2
          go_meet
          case rel => exact ⟨_, (true), (by first | rfl | (simp; done) | (simp [*]; done)), H', ⟨by have := HJ4.out; first | omega | exact Nat.le_refl _⟩, ⟨by (with_reducible repeat (first | refine ΩA_3 ?_ _ | refine ΩC_3 ?_ | refine ΩB_3 ?_ _)); exact BK146.out⟩, ⟨by (with_reducible repeat (first | refine ΩA_3 ?_ _ | refine ΩC_3 ?_ | refine ΩB_3 ?_ _)); exact BK147.out⟩, ⟨by repeat (first | (with_reducible first | exact HB.out | apply Ω6_3 | apply Ω7_3 | apply Ω8_3 | refine Ω9_3 ?_ GE146.out | refine Ω9_3 ?_ GE147.out) | exact HB.out)⟩⟩
         ·rw [if_neg c32] at H
          have c32b0 : (t150 == 0) = false := beq_eq_false_iff_ne.mpr c32
          have c32b1 : (t150 != 0) = true := bne_iff_ne.mpr c32
          (first | rw [c32b0] | (simp only [i64_w, i32_w]; rw [c32b0]) | skip)
          have H' := Ω5_3 H
          clear H
          go_wp2
          go_meet
          case rel => exact ⟨_, ((t152 == 0)), (by first | rfl | (simp; done) | (simp [*]; done)), H', ⟨by have := HJ4.out; first | omega | exact Nat.le_refl _⟩, ⟨by (with_reducible repeat (first | refine ΩA_3 ?_ _ | refine ΩC_3 ?_ | refine ΩB_3 ?_ _)); exact BK146.out⟩, ⟨by (with_reducible repeat (first | refine ΩA_3 ?_ _ | refine ΩC_3 ?_ | refine ΩB_3 ?_ _)); exact BK147.out⟩, ⟨by repeat (first | (with_reducible first | exact HB.out | apply Ω6_3 | apply Ω7_3 | apply Ω8_3 | refine Ω9_3 ?_ GE146.out | refine Ω9_3 ?_ GE147.out) | exact HB.out)⟩⟩
        case rest =>
         clear HC29;(try clear c1);(try clear p1);(try clear q1);(try clear hx1);(try clear c2);(try clear p2);(try clear c3);(try clear c5);(try clear p6);(try clear c8);(try clear c11);(try clear c12);(try clear p14);(try clear q14);(try clear hx14);(try clear c15);(try clear p15);(try clear q15);(try clear hx15);(try clear c18);(try clear c19);(try clear c22);(try clear c22b0);(try clear c23);(try clear c23b0);(try clear c26);(try clear c26b0);(try clear c27);(try clear c27b0);(try clear c30);(try clear c32);(try clear c32b0);(try clear c32b1);(try clear hcz13_0);(try clear hcz13_1);(try clear hcz16_0);(try clear hcz16_1);(try clear hcz20_0);(try clear hcz20_1);(try clear hcz31_0);(try clear hcz31_1);(try clear hcz9_0);(try clear hcz9_1);(try clear hfz13_0);(try clear hfz13_1);(try clear hfz16_0);(try clear hfz16_1);(try clear hfz20_0);(try clear hfz20_1);(try clear hfz31_0);(try clear hfz31_1);(try clear hfz9_0);(try clear hfz9_1);(try clear hx149_0);(try clear hx151_0);(try clear p149);(try clear p151);(try clear p2);(try clear q149);(try clear q151)
         obtain ⟨kq, x52_28, rfl, HA, HJ28, BK146, BK147, HB⟩ := hcut
         cases kq with
         | zero => exact absurd HA.out (by simp [spec_l5Pool.j1])
         | succ kj28 =>
          have H := HA.out;clear HA
          simp only [spec_l5Pool.j1] at H
          by_cases c33 : x52_28 = true
          ·subst c33
           have H1 : (some (([] : List Int), ([] : List Int))) = some (r1, r2) := by rw [if_pos rfl] at H; exact H
           clear H;have H := H1;clear H1
           simp only [Option.some.injEq, Prod.mk.injEq] at H
           obtain ⟨rfl, rfl⟩ := H
           have hnb34 := NB147_146.out;have hnc34 := NB146_147.out;have hcz35_0 : wc.cell? ⟨gb147, 0, none⟩ = some (.slice none 0 0) := (blk_cell BK147.out 0).trans rfl;have hcz35_1 : wc.cell? ⟨gb147, 1, none⟩ = some (.slice none 0 0) := (blk_cell BK147.out 1).trans rfl;have hfz35_0 := blk_frozen BK147.out 0;have hfz35_1 := blk_frozen BK147.out 1
           go_wp2
           refine bodyPost_ret (results_cell_row rfl _ _ gb147 56 #[.slice none 0 0, .slice none 0 0] (0, 0) _ rfl (by (with_reducible repeat (first | refine ΩA_3 ?_ _ | refine ΩC_3 ?_ | refine ΩB_3 ?_ _)); refine blk_put (cs := #[.slice none 0 0, .slice none 0 0]) ?_ 1 _ rfl; (with_reducible repeat (first | refine ΩA_3 ?_ _ | refine ΩC_3 ?_ | refine ΩB_3 ?_ _)); refine blk_put (cs := #[.slice none 0 0, .slice none 0 0]) ?_ 0 _ rfl; (with_reducible repeat (first | refine ΩA_3 ?_ _ | refine ΩC_3 ?_ | refine ΩB_3 ?_ _)); exact BK147.out) Try.underlying56 rfl (by kernel_rfl)) rfl ?_
           exact ⟨_, _, by first | rfl | (simp [errW_none, errW_some] <;> rfl) | (simp only [← hji21, ← hji25]; first | rfl | (simp [errW_none, errW_some] <;> rfl)) | (simp [*, errW_none, errW_some] <;> rfl), by first | exact Kd.R_nil _ _ _ _ _ | exact Kd.N_nil _ _ _ _ _ | exact Kd.V_nil _ _ _ _ _ | exact Kd.Q_nil _ _ _ _ _ | exact Kd.S_nil _ _ _ _ _, by first | exact Kd.R_nil _ _ _ _ _ | exact Kd.N_nil _ _ _ _ _ | exact Kd.V_nil _ _ _ _ _ | exact Kd.Q_nil _ _ _ _ _ | exact Kd.S_nil _ _ _ _ _, by repeat (first | (with_reducible first | exact HB.out | apply Ω6_3 | apply Ω7_3 | apply Ω8_3 | refine Ω9_3 ?_ GE146.out | refine Ω9_3 ?_ GE147.out) | exact HB.out)⟩
          ·replace c33 := Bool.eq_false_iff.mpr c33
           subst c33
           have H1 : ((spec_l4With.f l0_0 (wrap64 ((l0_0.length : Int) - 2)) t150).bind fun t153 => ((spec_l4With.f t153 (wrap64 ((l0_0.length : Int) - 1)) t152).bind fun t156 => ((spec_l4New.f kj28 t156).bind fun bt159 => (spec_l5Pool.l0 kj28 a1 a2 (l0_0.length : Int) 0 l0_0 l0_1 bt159.1 bt159.2)))) = some (r1, r2) := by rw [if_neg (show ¬ (false = true) by decide)] at H; exact H
           clear H;have H := H1;clear H1
           replace H := Option.bind_eq_some_iff.mp H
           obtain ⟨t153, A360, H⟩ := H
           replace H : ((spec_l4With.f t153 (wrap64 ((l0_0.length : Int) - 1)) t152).bind fun t156 => ((spec_l4New.f kj28 t156).bind fun bt159 => (spec_l5Pool.l0 kj28 a1 a2 (l0_0.length : Int) 0 l0_0 l0_1 bt159.1 bt159.2))) = some (r1, r2) := H
           have A36 := Ω5_3 A360
           clear A360
           replace H := Option.bind_eq_some_iff.mp H
           obtain ⟨t156, A370, H⟩ := H
           replace H : ((spec_l4New.f kj28 t156).bind fun bt159 => (spec_l5Pool.l0 kj28 a1 a2 (l0_0.length : Int) 0 l0_0 l0_1 bt159.1 bt159.2)) = some (r1, r2) := H
           have A37 := Ω5_3 A370
           clear A370
           replace H := Option.bind_eq_some_iff.mp H
           obtain ⟨⟨t159, t162⟩, A380, H⟩ := H
           replace H : (spec_l5Pool.l0 kj28 a1 a2 (l0_0.length : Int) 0 l0_0 l0_1 t159 t162) = some (r1, r2) := H
           have A38 := Ω5_3 A380
           clear A380
           have H' := Ω5_3 H
           clear H;have hnb39 := NB146_147.out;have hnc39 := NB147_146.out;have hcz40_0 : wc.cell? ⟨gb146, 0, none⟩ = some (.slice (some ad149) l0_0.length c0_0) := (blk_cell BK146.out 0).trans rfl;have hcz40_1 : wc.cell? ⟨gb146, 1, none⟩ = some (.slice A0_1 l0_1.length c0_1) := (blk_cell BK146.out 1).trans rfl;have hfz40_0 := blk_frozen BK146.out 0;have hfz40_1 := blk_frozen BK146.out 1;clear hji21w hji25w
           go_wp2_with (first | ((with_reducible refine gate_callee (f := 84) rfl ?_); refine goesL_ (some 59) rfl rfl Try.func84 (by kernel_rfl) rfl #[.slice (some ad149) l0_0.length c0_0, .int .i64 (wrap64 ((l0_0.length : Int) - 2)), .int .i64 t150] rfl (by (try simp only [List.map_toArray, List.map_cons, List.map_nil]); first | done | rfl | (simp only [List.length_drop, List.length_take]; rfl)) ?_; (with_reducible refine (spec_l4With.calls _ _ l0_0 (wrap64 ((l0_0.length : Int) - 2)) t150 t153 _ ?side1 ?side2 A36.out).mono ?_); (case side1 => repeat (first | exact (Kd.C_below HR0_0.out HB.out) | (with_reducible refine Kd.C_alloc ?_ _) | (with_reducible refine Kd.C_drewN ?_ _) | (with_reducible refine Kd.C_drew ?_))); (case side2 => exact HC0_0.out); rintro e w41 ⟨v154, rfl, ho0, hb⟩; refine ⟨_, rfl, ?_⟩; have n0_ := Ω5_3 (Kd.R_lower ho0 (below_size (by repeat (first | (with_reducible first | exact HB.out | apply Ω6_3 | apply Ω7_3 | apply Ω8_3 | refine Ω9_3 ?_ GE146.out | refine Ω9_3 ?_ GE147.out) | exact HB.out)))); have n1_ := Ω5_3 (blk_below (g := gb146) (o := .cells #[.slice (some ad149) l0_0.length c0_0, .slice A0_1 l0_1.length c0_1] 56 (0, 0)) (by (with_reducible repeat (first | refine ΩA_3 ?_ _ | refine ΩC_3 ?_ | refine ΩB_3 ?_ _)); exact BK146.out) hb); have n2_ := Ω5_3 (blk_below (g := gb147) (o := .cells #[.slice none 0 0, .slice none 0 0] 56 (0, 0)) (by (with_reducible repeat (first | refine ΩA_3 ?_ _ | refine ΩC_3 ?_ | refine ΩB_3 ?_ _)); exact BK147.out) hb); have n3_ := Ω5_3 (below_step (by repeat (first | (with_reducible first | exact HB.out | apply Ω6_3 | apply Ω7_3 | apply Ω8_3 | refine Ω9_3 ?_ GE146.out | refine Ω9_3 ?_ GE147.out) | exact HB.out)) hb); clear BK146; clear BK147; clear HB; have HO155 := n0_; have BK146 := n1_; have BK147 := n2_; have HB := n3_; clear n0_ n1_ n2_ n3_; (try clear hb); (try clear hb2); (try clear hk); (try clear hi); (try clear ho0); obtain ⟨Ao42, co42, eo42⟩ := Kd.R_slice HO155.out; subst eo42) | ((with_reducible refine gate_callee (f := 84) rfl ?_); refine goesL_ (some 63) rfl rfl Try.func84 (by kernel_rfl) rfl #[.slice Ao42 t153.length co42, .int .i64 (wrap64 ((l0_0.length : Int) - 1)), .int .i64 t152] rfl (by (try simp only [List.map_toArray, List.map_cons, List.map_nil]); first | done | rfl | (simp only [List.length_drop, List.length_take]; rfl)) ?_; (with_reducible refine (spec_l4With.calls _ _ t153 (wrap64 ((l0_0.length : Int) - 1)) t152 t156 _ ?side1 ?side2 A37.out).mono ?_); (case side1 => repeat (first | exact (Kd.R_reads' HO155.out).2.2 | (with_reducible refine Kd.C_alloc ?_ _) | (with_reducible refine Kd.C_drewN ?_ _) | (with_reducible refine Kd.C_drew ?_))); (case side2 => exact (Kd.R_reads' HO155.out).2.1); rintro e w43 ⟨v157, rfl, ho0, hb⟩; refine ⟨_, rfl, ?_⟩; have n0_ := Ω5_3 (Kd.R_elder' (by (with_reducible repeat (first | apply Ω1_3 | apply Ω2_3 | apply Ω3_3)); exact HO155.out) (Kd.R_base ho0) hb); have n1_ := Ω5_3 (Kd.R_lower (Kd.R_new' ho0 (Kd.R_lt (by (with_reducible repeat (first | apply Ω1_3 | apply Ω2_3 | apply Ω3_3)); exact HO155.out))) (below_size (by repeat (first | (with_reducible first | exact HB.out | apply Ω6_3 | apply Ω7_3 | apply Ω8_3 | refine Ω9_3 ?_ GE146.out | refine Ω9_3 ?_ GE147.out) | exact HB.out)))); have n2_ := Ω5_3 (blk_below (g := gb146) (o := .cells #[.slice (some ad149) l0_0.length c0_0, .slice A0_1 l0_1.length c0_1] 56 (0, 0)) (by (with_reducible repeat (first | refine ΩA_3 ?_ _ | refine ΩC_3 ?_ | refine ΩB_3 ?_ _)); exact BK146.out) hb); have n3_ := Ω5_3 (blk_below (g := gb147) (o := .cells #[.slice none 0 0, .slice none 0 0] 56 (0, 0)) (by (with_reducible repeat (first | refine ΩA_3 ?_ _ | refine ΩC_3 ?_ | refine ΩB_3 ?_ _)); exact BK147.out) hb); have n4_ := Ω5_3 (below_step (by repeat (first | (with_reducible first | exact HB.out | apply Ω6_3 | apply Ω7_3 | apply Ω8_3 | refine Ω9_3 ?_ GE146.out | refine Ω9_3 ?_ GE147.out) | exact HB.out)) hb); clear HO155; clear BK146; clear BK147; clear HB; have HO155 := n0_; have HO158 := n1_; have BK146 := n2_; have BK147 := n3_; have HB := n4_; clear n0_ n1_ n2_ n3_ n4_; (try clear hb); (try clear hb2); (try clear hk); (try clear hi); (try clear ho0); obtain ⟨Ao44, co44, eo44⟩ := Kd.R_slice HO158.out; subst eo44) | ((with_reducible refine gate_callee (f := 83) rfl ?_); refine goesL_ (some 64) rfl rfl Try.func83 (by kernel_rfl) rfl #[.slice Ao44 t156.length co44] rfl (by (try simp only [List.map_toArray, List.map_cons, List.map_nil]); first | done | rfl | (simp only [List.length_drop, List.length_take]; rfl)) ?_; (with_reducible refine (spec_l4New.calls kj28 _ _ t156 t159 t162 _ ?side1 ?side2 A38.out).mono ?_); (case side1 => repeat (first | exact (Kd.R_reads' HO158.out).2.2 | (with_reducible refine Kd.C_alloc ?_ _) | (with_reducible refine Kd.C_drewN ?_ _) | (with_reducible refine Kd.C_drew ?_))); (case side2 => exact (Kd.R_reads' HO158.out).2.1); rintro e w45 ⟨v160, v163, rfl, ho0, ho1, hb⟩; refine ⟨_, rfl, ?_⟩; have n0_ := Ω5_3 (Kd.R_mono (Kd.R_told (Kd.R_told (Kd.R_old (by (with_reducible repeat (first | apply Ω1_3 | apply Ω2_3 | apply Ω3_3)); exact HO155.out) hb) (Kd.R_base ho0)) (Kd.R_base ho1)) (fun _ h_ => h_.1)); have n1_ := Ω5_3 (Kd.R_mono (Kd.R_told (Kd.R_told (Kd.R_old (by (with_reducible repeat (first | apply Ω1_3 | apply Ω2_3 | apply Ω3_3)); exact HO158.out) hb) (Kd.R_base ho0)) (Kd.R_base ho1)) (fun _ h_ => h_.1)); have n2_ := Ω5_3 (Kd.R_lower (Kd.R_new' (Kd.R_new' ho0 (Kd.R_lt (by (with_reducible repeat (first | apply Ω1_3 | apply Ω2_3 | apply Ω3_3)); exact HO155.out))) (Kd.R_lt (by (with_reducible repeat (first | apply Ω1_3 | apply Ω2_3 | apply Ω3_3)); exact HO158.out))) (below_size (by repeat (first | (with_reducible first | exact HB.out | apply Ω6_3 | apply Ω7_3 | apply Ω8_3 | refine Ω9_3 ?_ GE146.out | refine Ω9_3 ?_ GE147.out) | exact HB.out)))); have n3_ := Ω5_3 (Kd.R_lower (Kd.R_new' (Kd.R_new' ho1 (Kd.R_lt (by (with_reducible repeat (first | apply Ω1_3 | apply Ω2_3 | apply Ω3_3)); exact HO155.out))) (Kd.R_lt (by (with_reducible repeat (first | apply Ω1_3 | apply Ω2_3 | apply Ω3_3)); exact HO158.out))) (below_size (by repeat (first | (with_reducible first | exact HB.out | apply Ω6_3 | apply Ω7_3 | apply Ω8_3 | refine Ω9_3 ?_ GE146.out | refine Ω9_3 ?_ GE147.out) | exact HB.out)))); have n4_ := Ω5_3 (blk_below (g := gb146) (o := .cells #[.slice (some ad149) l0_0.length c0_0, .slice A0_1 l0_1.length c0_1] 56 (0, 0)) (by (with_reducible repeat (first | refine ΩA_3 ?_ _ | refine ΩC_3 ?_ | refine ΩB_3 ?_ _)); exact BK146.out) hb); have n5_ := Ω5_3 (blk_below (g := gb147) (o := .cells #[.slice none 0 0, .slice none 0 0] 56 (0, 0)) (by (with_reducible repeat (first | refine ΩA_3 ?_ _ | refine ΩC_3 ?_ | refine ΩB_3 ?_ _)); exact BK147.out) hb); have n6_ := Ω5_3 (below_step (by repeat (first | (with_reducible first | exact HB.out | apply Ω6_3 | apply Ω7_3 | apply Ω8_3 | refine Ω9_3 ?_ GE146.out | refine Ω9_3 ?_ GE147.out) | exact HB.out)) hb); clear HO155; clear HO158; clear BK146; clear BK147; clear HB; have HO155 := n0_; have HO158 := n1_; have HO161 := n2_; have HO164 := n3_; have BK146 := n4_; have BK147 := n5_; have HB := n6_; clear n0_ n1_ n2_ n3_ n4_ n5_ n6_; (try clear hb); (try clear hb2); (try clear hk); (try clear hi); (try clear ho0); (try clear ho1)) | ((with_reducible refine gate_dst (N := 12) rfl ?_); refine box_event ?hg (N := 12) ?hd (cs := #[.slice none 0 0, .slice none 0 0]) (t := 56) ?hr ?_; (case hd => rfl); (case hg => rfl); (case hr => first | (go_simp; done) | (go_simp; rfl)); intro gb165 hg w46 hbox hb; have n0_ := Ω5_3 (Kd.R_below (by (with_reducible repeat (first | apply Ω1_3 | apply Ω2_3 | apply Ω3_3)); exact HO155.out) hb); have n1_ := Ω5_3 (Kd.R_below (by (with_reducible repeat (first | apply Ω1_3 | apply Ω2_3 | apply Ω3_3)); exact HO158.out) hb); have n2_ := Ω5_3 (Kd.R_below (by (with_reducible repeat (first | apply Ω1_3 | apply Ω2_3 | apply Ω3_3)); exact HO161.out) hb); have n3_ := Ω5_3 (Kd.R_below (by (with_reducible repeat (first | apply Ω1_3 | apply Ω2_3 | apply Ω3_3)); exact HO164.out) hb); have n4_ := Ω5_3 (blk_below (g := gb146) (o := .cells #[.slice (some ad149) l0_0.length c0_0, .slice A0_1 l0_1.length c0_1] 56 (0, 0)) (by (with_reducible repeat (first | refine ΩA_3 ?_ _ | refine ΩC_3 ?_ | refine ΩB_3 ?_ _)); exact BK146.out) hb); have n5_ := Ω5_3 (blk_below (g := gb147) (o := .cells #[.slice none 0 0, .slice none 0 0] 56 (0, 0)) (by (with_reducible repeat (first | refine ΩA_3 ?_ _ | refine ΩC_3 ?_ | refine ΩB_3 ?_ _)); exact BK147.out) hb); have n6_ := Ω5_3 (below_step (by repeat (first | (with_reducible first | exact HB.out | apply Ω6_3 | apply Ω7_3 | apply Ω8_3 | refine Ω9_3 ?_ GE146.out | refine Ω9_3 ?_ GE147.out) | exact HB.out)) hb); have n7_ := Ω5_3 (hbox); have n8_ := Ω5_3 ((by rw [hg]; exact (below_size (by repeat (first | (with_reducible first | exact HB.out | apply Ω6_3 | apply Ω7_3 | apply Ω8_3 | refine Ω9_3 ?_ GE146.out | refine Ω9_3 ?_ GE147.out) | exact HB.out))) : w.heap.size ≤ gb165)); have n9_ := Ω5_3 ((by rw [hg]; exact (below_size (by repeat (first | (with_reducible first | exact HB.out | apply Ω6_3 | apply Ω7_3 | apply Ω8_3 | refine Ω9_3 ?_ GE146.out | refine Ω9_3 ?_ GE147.out) | exact HB.out))) : w.heap.size ≤ gb165)); have n10_ := Ω5_3 ((by rw [hg]; exact Nat.ne_of_lt (blk_lt (g := gb146) (o := .cells #[.slice (some ad149) l0_0.length c0_0, .slice A0_1 l0_1.length c0_1] 56 (0, 0)) (by (with_reducible repeat (first | refine ΩA_3 ?_ _ | refine ΩC_3 ?_ | refine ΩB_3 ?_ _)); exact BK146.out)) : gb146 ≠ gb165)); have n11_ := Ω5_3 ((by rw [hg]; exact Nat.ne_of_gt (blk_lt (g := gb146) (o := .cells #[.slice (some ad149) l0_0.length c0_0, .slice A0_1 l0_1.length c0_1] 56 (0, 0)) (by (with_reducible repeat (first | refine ΩA_3 ?_ _ | refine ΩC_3 ?_ | refine ΩB_3 ?_ _)); exact BK146.out)) : gb165 ≠ gb146)); have n12_ := Ω5_3 ((by rw [hg]; exact Nat.ne_of_lt (blk_lt (g := gb147) (o := .cells #[.slice none 0 0, .slice none 0 0] 56 (0, 0)) (by (with_reducible repeat (first | refine ΩA_3 ?_ _ | refine ΩC_3 ?_ | refine ΩB_3 ?_ _)); exact BK147.out)) : gb147 ≠ gb165)); have n13_ := Ω5_3 ((by rw [hg]; exact Nat.ne_of_gt (blk_lt (g := gb147) (o := .cells #[.slice none 0 0, .slice none 0 0] 56 (0, 0)) (by (with_reducible repeat (first | refine ΩA_3 ?_ _ | refine ΩC_3 ?_ | refine ΩB_3 ?_ _)); exact BK147.out)) : gb165 ≠ gb147)); clear HO155; clear HO158; clear HO161; clear HO164; clear BK146; clear BK147; clear HB; have HO155 := n0_; have HO158 := n1_; have HO161 := n2_; have HO164 := n3_; have BK146 := n4_; have BK147 := n5_; have HB := n6_; have BK165 := n7_; have GW165 := n8_; have GE165 := n9_; have NB146_165 := n10_; have NB165_146 := n11_; have NB147_165 := n12_; have NB165_147 := n13_; clear n0_ n1_ n2_ n3_ n4_ n5_ n6_ n7_ n8_ n9_ n10_ n11_ n12_ n13_; clear hb hbox hg; obtain ⟨Ao47, co47, eo47⟩ := Kd.R_slice HO161.out; subst eo47; have hnb48 := NB165_146.out; have hnc48 := NB146_165.out; have hnb49 := NB165_147.out; have hnc49 := NB147_165.out; have hcz50_0 : w46.cell? ⟨gb165, 0, none⟩ = some (.slice none 0 0) := (blk_cell BK165.out 0).trans rfl; have hcz50_1 : w46.cell? ⟨gb165, 1, none⟩ = some (.slice none 0 0) := (blk_cell BK165.out 1).trans rfl; have hfz50_0 := blk_frozen BK165.out 0; have hfz50_1 := blk_frozen BK165.out 1; obtain ⟨Ao51, co51, eo51⟩ := Kd.R_slice HO164.out; subst eo51))
           go_loopg [13] kj28 (fun kq v13 w' => ∃ (x13_3 : Int) (x166000_3 : List Int) (x166001_3 : List Int) (u166000 : Value) (u166001 : Value), v13 = .int .i64 x13_3 ∧ Aside0 (spec_l5Pool.l0 kq a1 a2 (l0_0.length : Int) x13_3 l0_0 l0_1 x166000_3 x166001_3 = some (r1, r2)) ∧ Aside0 (kq ≤ kj28) ∧ Aside0 (Kd.R (Kd.int .i64) 3 w' w.heap.size (fun k_ => some k_ ≠ (u166001 : Value).ownBlock) u166000 x166000_3) ∧ Aside0 (Kd.R (Kd.int .i64) 3 w' w.heap.size (fun k_ => some k_ ≠ (u166000 : Value).ownBlock) u166001 x166001_3) ∧ Aside0 (w'.heap[gb146]? = some (.cells #[(.slice (some ad149) l0_0.length c0_0), (.slice A0_1 l0_1.length c0_1)] 56 (0, 0))) ∧ Aside0 (w'.heap[gb147]? = some (.cells #[(.slice none 0 0), (.slice none 0 0)] 56 (0, 0))) ∧ Aside0 (w'.heap[gb165]? = some (.cells #[u166000, u166001] 56 (0, 0))) ∧ Aside0 (Below w.heap.size w w'))
           case atStart => exact ⟨(0), (t159), (t162), (.slice Ao47 t159.length co47), (.slice Ao51 t162.length co51), (by first | rfl | (simp; done) | (simp [*]; done)), H', ⟨Nat.le_refl _⟩, ⟨by (with_reducible repeat (first | apply Ω1_3 | apply Ω2_3 | apply Ω3_3)); exact Kd.R_mono (Kd.R_far (p := ⟨gb165, 1, none⟩) (Kd.R_far (p := ⟨gb165, 0, none⟩) (Kd.R_types HO161.out BK165.out (by decide)) (fun _ hk => hk.2) (.slice Ao47 t159.length co47)) (fun _ hk => hk.2) (.slice Ao51 t162.length co51)) (fun _ hk => hk.1.1.1)⟩, ⟨by (with_reducible repeat (first | apply Ω1_3 | apply Ω2_3 | apply Ω3_3)); exact Kd.R_mono (Kd.R_far (p := ⟨gb165, 1, none⟩) (Kd.R_far (p := ⟨gb165, 0, none⟩) (Kd.R_types HO164.out BK165.out (by decide)) (fun _ hk => hk.2) (.slice Ao47 t159.length co47)) (fun _ hk => hk.2) (.slice Ao51 t162.length co51)) (fun _ hk => hk.1.1.1)⟩, ⟨by (with_reducible repeat (first | refine ΩA_3 ?_ _ | refine ΩC_3 ?_ | refine ΩB_3 ?_ _)); refine blk_far ?_ NB146_165.out _; (with_reducible repeat (first | refine ΩA_3 ?_ _ | refine ΩC_3 ?_ | refine ΩB_3 ?_ _)); refine blk_far ?_ NB146_165.out _; (with_reducible repeat (first | refine ΩA_3 ?_ _ | refine ΩC_3 ?_ | refine ΩB_3 ?_ _)); exact BK146.out⟩, ⟨by (with_reducible repeat (first | refine ΩA_3 ?_ _ | refine ΩC_3 ?_ | refine ΩB_3 ?_ _)); refine blk_far ?_ NB147_165.out _; (with_reducible repeat (first | refine ΩA_3 ?_ _ | refine ΩC_3 ?_ | refine ΩB_3 ?_ _)); refine blk_far ?_ NB147_165.out _; (with_reducible repeat (first | refine ΩA_3 ?_ _ | refine ΩC_3 ?_ | refine ΩB_3 ?_ _)); exact BK147.out⟩, ⟨by (with_reducible repeat (first | refine ΩA_3 ?_ _ | refine ΩC_3 ?_ | refine ΩB_3 ?_ _)); refine blk_put (cs := #[.slice Ao47 t159.length co47, .slice none 0 0]) ?_ 1 _ rfl; (with_reducible repeat (first | refine ΩA_3 ?_ _ | refine ΩC_3 ?_ | refine ΩB_3 ?_ _)); refine blk_put (cs := #[.slice none 0 0, .slice none 0 0]) ?_ 0 _ rfl; (with_reducible repeat (first | refine ΩA_3 ?_ _ | refine ΩC_3 ?_ | refine ΩB_3 ?_ _)); exact BK165.out⟩, ⟨by repeat (first | (with_reducible first | exact HB.out | apply Ω6_3 | apply Ω7_3 | apply Ω8_3 | refine Ω9_3 ?_ GE146.out | refine Ω9_3 ?_ GE147.out | refine Ω9_3 ?_ GE165.out) | exact HB.out)⟩⟩
           case round =>
            clear H';(try clear c1);(try clear p1);(try clear q1);(try clear hx1);(try clear c2);(try clear p2);(try clear c3);(try clear c4);(try clear c5);(try clear p6);(try clear c8);(try clear c11);(try clear c12);(try clear p14);(try clear q14);(try clear hx14);(try clear c15);(try clear p15);(try clear q15);(try clear hx15);(try clear c18);(try clear c19);(try clear c22);(try clear c22b0);(try clear c23);(try clear c23b0);(try clear c26);(try clear c26b0);(try clear c27);(try clear c27b0);(try clear c30);(try clear c32);(try clear c32b0);(try clear c32b1);(try clear c33);(try clear c34);(try clear c39);(try clear c48);(try clear c49);(try clear hcz13_0);(try clear hcz13_1);(try clear hcz16_0);(try clear hcz16_1);(try clear hcz20_0);(try clear hcz20_1);(try clear hcz31_0);(try clear hcz31_1);(try clear hcz35_0);(try clear hcz35_1);(try clear hcz40_0);(try clear hcz40_1);(try clear hcz50_0);(try clear hcz50_1);(try clear hcz9_0);(try clear hcz9_1);(try clear hfz13_0);(try clear hfz13_1);(try clear hfz16_0);(try clear hfz16_1);(try clear hfz20_0);(try clear hfz20_1);(try clear hfz31_0);(try clear hfz31_1);(try clear hfz35_0);(try clear hfz35_1);(try clear hfz40_0);(try clear hfz40_1);(try clear hfz50_0);(try clear hfz50_1);(try clear hfz9_0);(try clear hfz9_1);(try clear hx149_0);(try clear hx151_0);(try clear p1);(try clear p14);(try clear p149);(try clear p15);(try clear p151);(try clear p2);(try clear p6);(try clear q1);(try clear q14);(try clear q149);(try clear q15);(try clear q151)
            obtain ⟨x13_3, x166000_3, x166001_3, u166000, u166001, rfl, HA, HK3, HO_166000, HO_166001, BK146, BK147, BK165, HB⟩ := hrel
            cases gk with
            | zero => exact absurd HA.out (by simp [spec_l5Pool.l0])
            | succ k3 =>
             have H := HA.out;clear HA
             simp only [spec_l5Pool.l0] at H
             by_cases c52 : x13_3 < (x166001_3.length : Int)
             ·rw [if_pos c52] at H
              have c52b0 : decide (x13_3 < (x166001_3.length : Int)) = true := decide_eq_true c52
              clear c52
              replace H := Option.bind_eq_some_iff.mp H
              obtain ⟨t166, A530, H⟩ := H
              replace H : (spec_l5Pool.l1 k3 a1 a2 (l0_0.length : Int) x13_3 t166 0 l0_0 l0_1 x166000_3 x166001_3) = some (r1, r2) := H
              have A53 := Ω5_3 A530
              clear A530
              have H' := Ω5_3 H
              clear H;have hnb54 := NB165_146.out;have hnc54 := NB146_165.out;have hnb55 := NB165_147.out;have hnc55 := NB147_165.out;have hcz56_0 : wr.cell? ⟨gb165, 0, none⟩ = some (u166000) := (blk_cell BK165.out 0).trans rfl;have hcz56_1 : wr.cell? ⟨gb165, 1, none⟩ = some (u166001) := (blk_cell BK165.out 1).trans rfl;have hfz56_0 := blk_frozen BK165.out 0;have hfz56_1 := blk_frozen BK165.out 1
              obtain ⟨Ao57, co57, eo57⟩ := Kd.R_slice HO_166001.out
              subst eo57
              obtain ⟨Ao58, co58, eo58⟩ := Kd.R_slice HO_166000.out
              subst eo58
              go_wp2_with (first | ((with_reducible refine gate_callee (f := 85) rfl ?_); refine goesL_ (some 75) rfl rfl Try.func85 (by kernel_rfl) rfl #[.slice Ao58 x166000_3.length co58, .int .i64 x13_3] rfl (by (try simp only [List.map_toArray, List.map_cons, List.map_nil]); first | done | rfl | (simp only [List.length_drop, List.length_take]; rfl)) ?_; (with_reducible refine (spec_l3Index.calls k3 _ _ x166000_3 x13_3 t166 _ ?side1 ?side2 A53.out).mono ?_); (case side1 => repeat (first | exact (Kd.R_reads' HO_166000.out).2.2 | (with_reducible refine Kd.C_alloc ?_ _) | (with_reducible refine Kd.C_drewN ?_ _) | (with_reducible refine Kd.C_drew ?_))); (case side2 => exact (Kd.R_reads' HO_166000.out).2.1); rintro e w59 ⟨v167, rfl, ho0, hb⟩; refine ⟨_, rfl, ?_⟩; have n0_ := Ω5_3 (Kd.R_elder' (by (with_reducible repeat (first | apply Ω1_3 | apply Ω2_3 | apply Ω3_3)); exact HO_166000.out) (Kd.R_base ho0) hb); have n1_ := Ω5_3 (Kd.R_elder' (by (with_reducible repeat (first | apply Ω1_3 | apply Ω2_3 | apply Ω3_3)); exact HO_166001.out) (Kd.R_base ho0) hb); have n2_ := Ω5_3 (Kd.R_lower (Kd.R_new' (Kd.R_new' ho0 (Kd.R_lt (by (with_reducible repeat (first | apply Ω1_3 | apply Ω2_3 | apply Ω3_3)); exact HO_166000.out))) (Kd.R_lt (by (with_reducible repeat (first | apply Ω1_3 | apply Ω2_3 | apply Ω3_3)); exact HO_166001.out))) (below_size (by repeat (first | (with_reducible first | exact HB.out | apply Ω6_3 | apply Ω7_3 | apply Ω8_3 | refine Ω9_3 ?_ GE146.out | refine Ω9_3 ?_ GE147.out | refine Ω9_3 ?_ GE165.out) | exact HB.out)))); have n3_ := Ω5_3 (blk_below (g := gb146) (o := .cells #[.slice (some ad149) l0_0.length c0_0, .slice A0_1 l0_1.length c0_1] 56 (0, 0)) (by (with_reducible repeat (first | refine ΩA_3 ?_ _ | refine ΩC_3 ?_ | refine ΩB_3 ?_ _)); exact BK146.out) hb); have n4_ := Ω5_3 (blk_below (g := gb147) (o := .cells #[.slice none 0 0, .slice none 0 0] 56 (0, 0)) (by (with_reducible repeat (first | refine ΩA_3 ?_ _ | refine ΩC_3 ?_ | refine ΩB_3 ?_ _)); exact BK147.out) hb); have n5_ := Ω5_3 (blk_below (g := gb165) (o := .cells #[.slice Ao58 x166000_3.length co58, .slice Ao57 x166001_3.length co57] 56 (0, 0)) (by (with_reducible repeat (first | refine ΩA_3 ?_ _ | refine ΩC_3 ?_ | refine ΩB_3 ?_ _)); exact BK165.out) hb); have n6_ := Ω5_3 (below_step (by repeat (first | (with_reducible first | exact HB.out | apply Ω6_3 | apply Ω7_3 | apply Ω8_3 | refine Ω9_3 ?_ GE146.out | refine Ω9_3 ?_ GE147.out | refine Ω9_3 ?_ GE165.out) | exact HB.out)) hb); clear HO_166000; clear HO_166001; clear BK146; clear BK147; clear BK165; clear HB; have HO_166000 := n0_; have HO_166001 := n1_; have HO168 := n2_; have BK146 := n3_; have BK147 := n4_; have BK165 := n5_; have HB := n6_; clear n0_ n1_ n2_ n3_ n4_ n5_ n6_; (try clear hb); (try clear hb2); (try clear hk); (try clear hi); (try clear ho0)))
              go_loopg [15] k3 (fun kq v15 w' => ∃ (x14_4 : List Int) (x15_4 : Int) (x166000_4 : List Int) (x166001_4 : List Int) (u166000 : Value) (u166001 : Value), v15 = .int .i64 x15_4 ∧ Aside0 (spec_l5Pool.l1 kq a1 a2 (l0_0.length : Int) x13_3 x14_4 x15_4 l0_0 l0_1 x166000_4 x166001_4 = some (r1, r2)) ∧ Aside0 (kq ≤ k3) ∧ Aside0 (Kd.R (Kd.int .i64) 3 w' w.heap.size (fun k_ => some k_ ≠ (u166000 : Value).ownBlock ∧ some k_ ≠ (u166001 : Value).ownBlock) v167 x14_4) ∧ Aside0 (Kd.R (Kd.int .i64) 3 w' w.heap.size (fun k_ => some k_ ≠ (v167 : Value).ownBlock ∧ some k_ ≠ (u166001 : Value).ownBlock) u166000 x166000_4) ∧ Aside0 (Kd.R (Kd.int .i64) 3 w' w.heap.size (fun k_ => some k_ ≠ (v167 : Value).ownBlock ∧ some k_ ≠ (u166000 : Value).ownBlock) u166001 x166001_4) ∧ Aside0 (w'.heap[gb146]? = some (.cells #[(.slice (some ad149) l0_0.length c0_0), (.slice A0_1 l0_1.length c0_1)] 56 (0, 0))) ∧ Aside0 (w'.heap[gb147]? = some (.cells #[(.slice none 0 0), (.slice none 0 0)] 56 (0, 0))) ∧ Aside0 (w'.heap[gb165]? = some (.cells #[u166000, u166001] 56 (0, 0))) ∧ Aside0 (Below w.heap.size w w'))
              case atStart => exact ⟨(t166), (0), (x166000_3), (x166001_3), (.slice Ao58 x166000_3.length co58), (.slice Ao57 x166001_3.length co57), (by first | rfl | (simp; done) | (simp [*]; done)), H', ⟨Nat.le_refl _⟩, ⟨by (with_reducible repeat (first | apply Ω1_3 | apply Ω2_3 | apply Ω3_3)); exact Kd.R_mono HO168.out (fun _ hk => ⟨hk.1.2, hk.2⟩)⟩, ⟨by (with_reducible repeat (first | apply Ω1_3 | apply Ω2_3 | apply Ω3_3)); exact Kd.R_mono HO_166000.out (fun _ hk => ⟨hk.2, hk.1⟩)⟩, ⟨by (with_reducible repeat (first | apply Ω1_3 | apply Ω2_3 | apply Ω3_3)); exact Kd.R_mono HO_166001.out (fun _ hk => ⟨hk.2, hk.1⟩)⟩, ⟨by (with_reducible repeat (first | refine ΩA_3 ?_ _ | refine ΩC_3 ?_ | refine ΩB_3 ?_ _)); exact BK146.out⟩, ⟨by (with_reducible repeat (first | refine ΩA_3 ?_ _ | refine ΩC_3 ?_ | refine ΩB_3 ?_ _)); exact BK147.out⟩, ⟨by (with_reducible repeat (first | refine ΩA_3 ?_ _ | refine ΩC_3 ?_ | refine ΩB_3 ?_ _)); exact BK165.out⟩, ⟨by repeat (first | (with_reducible first | exact HB.out | apply Ω6_3 | apply Ω7_3 | apply Ω8_3 | refine Ω9_3 ?_ GE146.out | refine Ω9_3 ?_ GE147.out | refine Ω9_3 ?_ GE165.out) | exact HB.out)⟩⟩
              case round =>
               clear H';(try clear c1);(try clear p1);(try clear q1);(try clear hx1);(try clear c2);(try clear p2);(try clear c3);(try clear c4);(try clear c5);(try clear p6);(try clear c8);(try clear c11);(try clear c12);(try clear p14);(try clear q14);(try clear hx14);(try clear c15);(try clear p15);(try clear q15);(try clear hx15);(try clear c18);(try clear c19);(try clear c22);(try clear c22b0);(try clear c23);(try clear c23b0);(try clear c26);(try clear c26b0);(try clear c27);(try clear c27b0);(try clear c30);(try clear c32);(try clear c32b0);(try clear c32b1);(try clear c33);(try clear c34);(try clear c39);(try clear c48);(try clear c49);(try clear c52);(try clear c52b0);(try clear c54);(try clear c55);(try clear c58);(try clear hcz13_0);(try clear hcz13_1);(try clear hcz16_0);(try clear hcz16_1);(try clear hcz20_0);(try clear hcz20_1);(try clear hcz31_0);(try clear hcz31_1);(try clear hcz35_0);(try clear hcz35_1);(try clear hcz40_0);(try clear hcz40_1);(try clear hcz50_0);(try clear hcz50_1);(try clear hcz56_0);(try clear hcz56_1);(try clear hcz9_0);(try clear hcz9_1);(try clear hfz13_0);(try clear hfz13_1);(try clear hfz16_0);(try clear hfz16_1);(try clear hfz20_0);(try clear hfz20_1);(try clear hfz31_0);(try clear hfz31_1);(try clear hfz35_0);(try clear hfz35_1);(try clear hfz40_0);(try clear hfz40_1);(try clear hfz50_0);(try clear hfz50_1);(try clear hfz56_0);(try clear hfz56_1);(try clear hfz9_0);(try clear hfz9_1);(try clear hx149_0);(try clear hx151_0);(try clear p1);(try clear p14);(try clear p149);(try clear p15);(try clear p151);(try clear p2);(try clear p6);(try clear q1);(try clear q14);(try clear q149);(try clear q15);(try clear q151)
               obtain ⟨x14_4, x15_4, x166000_4, x166001_4, u166000, u166001, rfl, HA, HK4, HO_14, HO_166000, HO_166001, BK146, BK147, BK165, HB⟩ := hrel
               cases gk with
               | zero => exact absurd HA.out (by simp [spec_l5Pool.l1])
               | succ k4 =>
                have H := HA.out;clear HA
                simp only [spec_l5Pool.l1] at H
                by_cases c60 : x15_4 < a1
                ·rw [if_pos c60] at H
                 have c60b0 : decide (x15_4 < a1) = true := decide_eq_true c60
                 clear c60
                 have H' := Ω5_3 H
                 clear H
                 go_wp2
                 go_loopg [16] k4 (fun kq v16 w' => ∃ (x14_5 : List Int) (x16_5 : Int) (x166000_5 : List Int) (x166001_5 : List Int) (u166000 : Value) (u166001 : Value), v16 = .int .i64 x16_5 ∧ Aside0 (spec_l5Pool.l2 kq a1 a2 (l0_0.length : Int) x13_3 x14_5 x15_4 x16_5 l0_0 l0_1 x166000_5 x166001_5 = some (r1, r2)) ∧ Aside0 (kq ≤ k4) ∧ Aside0 (Kd.R (Kd.int .i64) 3 w' w.heap.size (fun k_ => some k_ ≠ (u166000 : Value).ownBlock ∧ some k_ ≠ (u166001 : Value).ownBlock) v167 x14_5) ∧ Aside0 (Kd.R (Kd.int .i64) 3 w' w.heap.size (fun k_ => some k_ ≠ (v167 : Value).ownBlock ∧ some k_ ≠ (u166001 : Value).ownBlock) u166000 x166000_5) ∧ Aside0 (Kd.R (Kd.int .i64) 3 w' w.heap.size (fun k_ => some k_ ≠ (v167 : Value).ownBlock ∧ some k_ ≠ (u166000 : Value).ownBlock) u166001 x166001_5) ∧ Aside0 (w'.heap[gb146]? = some (.cells #[(.slice (some ad149) l0_0.length c0_0), (.slice A0_1 l0_1.length c0_1)] 56 (0, 0))) ∧ Aside0 (w'.heap[gb147]? = some (.cells #[(.slice none 0 0), (.slice none 0 0)] 56 (0, 0))) ∧ Aside0 (w'.heap[gb165]? = some (.cells #[u166000, u166001] 56 (0, 0))) ∧ Aside0 (Below w.heap.size w w'))
                 case atStart => exact ⟨(x14_4), (0), (x166000_4), (x166001_4), (u166000), (u166001), (by first | rfl | (simp; done) | (simp [*]; done)), H', ⟨Nat.le_refl _⟩, ⟨by (with_reducible repeat (first | apply Ω1_3 | apply Ω2_3 | apply Ω3_3)); exact HO_14.out⟩, ⟨by (with_reducible repeat (first | apply Ω1_3 | apply Ω2_3 | apply Ω3_3)); exact HO_166000.out⟩, ⟨by (with_reducible repeat (first | apply Ω1_3 | apply Ω2_3 | apply Ω3_3)); exact HO_166001.out⟩, ⟨by (with_reducible repeat (first | refine ΩA_3 ?_ _ | refine ΩC_3 ?_ | refine ΩB_3 ?_ _)); exact BK146.out⟩, ⟨by (with_reducible repeat (first | refine ΩA_3 ?_ _ | refine ΩC_3 ?_ | refine ΩB_3 ?_ _)); exact BK147.out⟩, ⟨by (with_reducible repeat (first | refine ΩA_3 ?_ _ | refine ΩC_3 ?_ | refine ΩB_3 ?_ _)); exact BK165.out⟩, ⟨by repeat (first | (with_reducible first | exact HB.out | apply Ω6_3 | apply Ω7_3 | apply Ω8_3 | refine Ω9_3 ?_ GE146.out | refine Ω9_3 ?_ GE147.out | refine Ω9_3 ?_ GE165.out) | exact HB.out)⟩⟩
                 case round =>
                  clear H';(try clear c1);(try clear p1);(try clear q1);(try clear hx1);(try clear c2);(try clear p2);(try clear c3);(try clear c4);(try clear c5);(try clear c6);(try clear p6);(try clear c8);(try clear c11);(try clear c12);(try clear p14);(try clear q14);(try clear hx14);(try clear c15);(try clear p15);(try clear q15);(try clear hx15);(try clear c18);(try clear c19);(try clear c22);(try clear c22b0);(try clear c23);(try clear c23b0);(try clear c26);(try clear c26b0);(try clear c27);(try clear c27b0);(try clear c30);(try clear c32);(try clear c32b0);(try clear c32b1);(try clear c33);(try clear c34);(try clear c39);(try clear c48);(try clear c49);(try clear c52);(try clear c52b0);(try clear c54);(try clear c55);(try clear c58);(try clear c60);(try clear c60b0);(try clear hcz13_0);(try clear hcz13_1);(try clear hcz16_0);(try clear hcz16_1);(try clear hcz20_0);(try clear hcz20_1);(try clear hcz31_0);(try clear hcz31_1);(try clear hcz35_0);(try clear hcz35_1);(try clear hcz40_0);(try clear hcz40_1);(try clear hcz50_0);(try clear hcz50_1);(try clear hcz56_0);(try clear hcz56_1);(try clear hcz9_0);(try clear hcz9_1);(try clear hfz13_0);(try clear hfz13_1);(try clear hfz16_0);(try clear hfz16_1);(try clear hfz20_0);(try clear hfz20_1);(try clear hfz31_0);(try clear hfz31_1);(try clear hfz35_0);(try clear hfz35_1);(try clear hfz40_0);(try clear hfz40_1);(try clear hfz50_0);(try clear hfz50_1);(try clear hfz56_0);(try clear hfz56_1);(try clear hfz9_0);(try clear hfz9_1);(try clear hx149_0);(try clear hx151_0);(try clear p1);(try clear p14);(try clear p149);(try clear p15);(try clear p151);(try clear p2);(try clear p6);(try clear q1);(try clear q14);(try clear q149);(try clear q15);(try clear q151)
                  obtain ⟨x14_5, x16_5, x166000_5, x166001_5, u166000, u166001, rfl, HA, HK5, HO_14, HO_166000, HO_166001, BK146, BK147, BK165, HB⟩ := hrel
                  cases gk with
                  | zero => exact absurd HA.out (by simp [spec_l5Pool.l2])
                  | succ k5 =>
                   have H := HA.out;clear HA
                   simp only [spec_l5Pool.l2] at H
                   by_cases c61 : x16_5 < a1
                   ·rw [if_pos c61] at H
                    have c61b0 : decide (x16_5 < a1) = true := decide_eq_true c61
                    clear c61
                    obtain ⟨ji62, hji62⟩ : ∃ j_ : Int, (wrap64 ((l0_0.length : Int) - 2)) = j_ := ⟨_, rfl⟩
                    replace H : (if 0 ≤ (ji62) then (if (ji62) < (x14_5.length : Int) then ((spec_l4With.f x14_5 (ji62) (wrap64 ((wrap64 ((rd x14_5 (ji62)) * a2)) + x15_4))).bind fun t170 => (if 0 ≤ (wrap64 ((l0_0.length : Int) - 1)) then (if (wrap64 ((l0_0.length : Int) - 1)) < (x14_5.length : Int) then ((spec_l4With.f t170 (wrap64 ((l0_0.length : Int) - 1)) (wrap64 ((wrap64 ((rd x14_5 (wrap64 ((l0_0.length : Int) - 1))) * a2)) + x16_5))).bind fun t174 => ((spec_l4Get.f k5 l0_0 l0_1 t174).bind fun t177 => (if (wrap64 (x15_4 + x16_5)) = 0 then (if 0 ≤ x13_3 then (if x13_3 < (x166001_5.length : Int) then (spec_l5Pool.l2 k5 a1 a2 (l0_0.length : Int) x13_3 x14_5 x15_4 (wrap64 (x16_5 + 1)) l0_0 l0_1 x166000_5 (x166001_5.set (x13_3 : Int).toNat t177)) else (none)) else (none)) else ((spec_Signed.f t177).bind fun t178 => (if 0 ≤ x13_3 then (if x13_3 < (x166001_5.length : Int) then ((spec_Signed.f (rd x166001_5 x13_3)).bind fun t180 => (if t178 > t180 then (spec_l5Pool.l2 k5 a1 a2 (l0_0.length : Int) x13_3 x14_5 x15_4 (wrap64 (x16_5 + 1)) l0_0 l0_1 x166000_5 (x166001_5.set (x13_3 : Int).toNat t177)) else (spec_l5Pool.l2 k5 a1 a2 (l0_0.length : Int) x13_3 x14_5 x15_4 (wrap64 (x16_5 + 1)) l0_0 l0_1 x166000_5 x166001_5))) else (none)) else (none)))))) else (none)) else (none))) else (none)) else (none)) = some (r1, r2) := by first | (rw [hji62] at H; exact H) | (simp only [hji62] at H ⊢; exact H)
                    have hji62w : (IntKind.i64.wrap ((l0_0.length : Int) - 2)) = ji62 := (i64_w _).trans hji62
                    by_cases c63 : 0 ≤ (ji62)
                    ·rw [if_pos c63] at H
                     have c63b0 : decide (0 ≤ (ji62)) = true := decide_eq_true c63
                     clear c63
                     by_cases c64 : (ji62) < (x14_5.length : Int)
                     ·rw [if_pos c64] at H
                      have c64b0 : decide ((ji62) < (x14_5.length : Int)) = true := decide_eq_true c64
                      clear c64
                      replace H := Option.bind_eq_some_iff.mp H
                      obtain ⟨t170, A650, H⟩ := H
                      replace H : (if 0 ≤ (wrap64 ((l0_0.length : Int) - 1)) then (if (wrap64 ((l0_0.length : Int) - 1)) < (x14_5.length : Int) then ((spec_l4With.f t170 (wrap64 ((l0_0.length : Int) - 1)) (wrap64 ((wrap64 ((rd x14_5 (wrap64 ((l0_0.length : Int) - 1))) * a2)) + x16_5))).bind fun t174 => ((spec_l4Get.f k5 l0_0 l0_1 t174).bind fun t177 => (if (wrap64 (x15_4 + x16_5)) = 0 then (if 0 ≤ x13_3 then (if x13_3 < (x166001_5.length : Int) then (spec_l5Pool.l2 k5 a1 a2 (l0_0.length : Int) x13_3 x14_5 x15_4 (wrap64 (x16_5 + 1)) l0_0 l0_1 x166000_5 (x166001_5.set (x13_3 : Int).toNat t177)) else (none)) else (none)) else ((spec_Signed.f t177).bind fun t178 => (if 0 ≤ x13_3 then (if x13_3 < (x166001_5.length : Int) then ((spec_Signed.f (rd x166001_5 x13_3)).bind fun t180 => (if t178 > t180 then (spec_l5Pool.l2 k5 a1 a2 (l0_0.length : Int) x13_3 x14_5 x15_4 (wrap64 (x16_5 + 1)) l0_0 l0_1 x166000_5 (x166001_5.set (x13_3 : Int).toNat t177)) else (spec_l5Pool.l2 k5 a1 a2 (l0_0.length : Int) x13_3 x14_5 x15_4 (wrap64 (x16_5 + 1)) l0_0 l0_1 x166000_5 x166001_5))) else (none)) else (none)))))) else (none)) else (none)) = some (r1, r2) := H
                      have A65 := Ω5_3 A650
                      clear A650
                      obtain ⟨ji66, hji66⟩ : ∃ j_ : Int, (wrap64 ((l0_0.length : Int) - 1)) = j_ := ⟨_, rfl⟩
                      replace H : (if 0 ≤ (ji66) then (if (ji66) < (x14_5.length : Int) then ((spec_l4With.f t170 (ji66) (wrap64 ((wrap64 ((rd x14_5 (ji66)) * a2)) + x16_5))).bind fun t174 => ((spec_l4Get.f k5 l0_0 l0_1 t174).bind fun t177 => (if (wrap64 (x15_4 + x16_5)) = 0 then (if 0 ≤ x13_3 then (if x13_3 < (x166001_5.length : Int) then (spec_l5Pool.l2 k5 a1 a2 (l0_0.length : Int) x13_3 x14_5 x15_4 (wrap64 (x16_5 + 1)) l0_0 l0_1 x166000_5 (x166001_5.set (x13_3 : Int).toNat t177)) else (none)) else (none)) else ((spec_Signed.f t177).bind fun t178 => (if 0 ≤ x13_3 then (if x13_3 < (x166001_5.length : Int) then ((spec_Signed.f (rd x166001_5 x13_3)).bind fun t180 => (if t178 > t180 then (spec_l5Pool.l2 k5 a1 a2 (l0_0.length : Int) x13_3 x14_5 x15_4 (wrap64 (x16_5 + 1)) l0_0 l0_1 x166000_5 (x166001_5.set (x13_3 : Int).toNat t177)) else (spec_l5Pool.l2 k5 a1 a2 (l0_0.length : Int) x13_3 x14_5 x15_4 (wrap64 (x16_5 + 1)) l0_0 l0_1 x166000_5 x166001_5))) else (none)) else (none)))))) else (none)) else (none)) = some (r1, r2) := by first | (rw [hji66] at H; exact H) | (simp only [hji66] at H ⊢; exact H)
                      (try rw [hji66] at A65)
                      have hji66w : (IntKind.i64.wrap ((l0_0.length : Int) - 1)) = ji66 := (i64_w _).trans hji66
                      by_cases c67 : 0 ≤ (ji66)
                      ·rw [if_pos c67] at H
                       have c67b0 : decide (0 ≤ (ji66)) = true := decide_eq_true c67
                       clear c67
                       by_cases c68 : (ji66) < (x14_5.length : Int)
                       ·rw [if_pos c68] at H
                        have c68b0 : decide ((ji66) < (x14_5.length : Int)) = true := decide_eq_true c68
                        clear c68
                        replace H := Option.bind_eq_some_iff.mp H
                        obtain ⟨t174, A690, H⟩ := H
                        replace H : ((spec_l4Get.f k5 l0_0 l0_1 t174).bind fun t177 => (if (wrap64 (x15_4 + x16_5)) = 0 then (if 0 ≤ x13_3 then (if x13_3 < (x166001_5.length : Int) then (spec_l5Pool.l2 k5 a1 a2 (l0_0.length : Int) x13_3 x14_5 x15_4 (wrap64 (x16_5 + 1)) l0_0 l0_1 x166000_5 (x166001_5.set (x13_3 : Int).toNat t177)) else (none)) else (none)) else ((spec_Signed.f t177).bind fun t178 => (if 0 ≤ x13_3 then (if x13_3 < (x166001_5.length : Int) then ((spec_Signed.f (rd x166001_5 x13_3)).bind fun t180 => (if t178 > t180 then (spec_l5Pool.l2 k5 a1 a2 (l0_0.length : Int) x13_3 x14_5 x15_4 (wrap64 (x16_5 + 1)) l0_0 l0_1 x166000_5 (x166001_5.set (x13_3 : Int).toNat t177)) else (spec_l5Pool.l2 k5 a1 a2 (l0_0.length : Int) x13_3 x14_5 x15_4 (wrap64 (x16_5 + 1)) l0_0 l0_1 x166000_5 x166001_5))) else (none)) else (none))))) = some (r1, r2) := H
                        have A69 := Ω5_3 A690
                        clear A690
                        replace H := Option.bind_eq_some_iff.mp H
                        obtain ⟨t177, A700, H⟩ := H
                        replace H : (if (wrap64 (x15_4 + x16_5)) = 0 then (if 0 ≤ x13_3 then (if x13_3 < (x166001_5.length : Int) then (spec_l5Pool.l2 k5 a1 a2 (l0_0.length : Int) x13_3 x14_5 x15_4 (wrap64 (x16_5 + 1)) l0_0 l0_1 x166000_5 (x166001_5.set (x13_3 : Int).toNat t177)) else (none)) else (none)) else ((spec_Signed.f t177).bind fun t178 => (if 0 ≤ x13_3 then (if x13_3 < (x166001_5.length : Int) then ((spec_Signed.f (rd x166001_5 x13_3)).bind fun t180 => (if t178 > t180 then (spec_l5Pool.l2 k5 a1 a2 (l0_0.length : Int) x13_3 x14_5 x15_4 (wrap64 (x16_5 + 1)) l0_0 l0_1 x166000_5 (x166001_5.set (x13_3 : Int).toNat t177)) else (spec_l5Pool.l2 k5 a1 a2 (l0_0.length : Int) x13_3 x14_5 x15_4 (wrap64 (x16_5 + 1)) l0_0 l0_1 x166000_5 x166001_5))) else (none)) else (none)))) = some (r1, r2) := H
                        have A70 := Ω5_3 A700
                        clear A700
                        by_cases c71 : (wrap64 (x15_4 + x16_5)) = 0
                        ·rw [if_pos c71] at H
                         have c71b0 : ((wrap64 (x15_4 + x16_5)) == 0) = true := beq_iff_eq.mpr c71
                         have c71b1 : ((wrap64 (x15_4 + x16_5)) != 0) = false := bne_eq_false_iff_eq.mpr c71
                         clear c71
                         by_cases c72 : 0 ≤ x13_3
                         ·rw [if_pos c72] at H
                          have c72b0 : decide (0 ≤ x13_3) = true := decide_eq_true c72
                          clear c72
                          by_cases c73 : x13_3 < (x166001_5.length : Int)
                          ·rw [if_pos c73] at H
                           have c73b0 : decide (x13_3 < (x166001_5.length : Int)) = true := decide_eq_true c73
                           clear c73
                           obtain ⟨y181, hy181⟩ : ∃ y_ : List Int, y_ = (x166001_5.set (x13_3 : Int).toNat t177) := ⟨_, rfl⟩
                           replace H : (spec_l5Pool.l2 k5 a1 a2 (l0_0.length : Int) x13_3 x14_5 x15_4 (wrap64 (x16_5 + 1)) l0_0 l0_1 x166000_5 y181) = some (r1, r2) := by first | (rw [hy181]; with_reducible exact H) | (have H2_ := (Option.bind_some _ _).symm.trans H; rw [hy181]; with_reducible exact H2_) | (have H2_ := (Option.bind_some _ _).symm.trans H; with_reducible exact H2_) | with_reducible exact H | (rw [hy181]; exact H) | exact H
                           have Ny181 := Ω5_3 hy181
                           clear hy181
                           have H' := Ω5_3 H
                           clear H
                           try go_wp2
                           have n0_ := Ω5_3 (Ω3_3 HO_14.out);have n1_ := Ω5_3 (Ω3_3 HO_166000.out);have n2_ := Ω5_3 (Ω3_3 HO_166001.out);have n3_ := Ω5_3 (ΩC_3 BK146.out);have n4_ := Ω5_3 (ΩC_3 BK147.out);have n5_ := Ω5_3 (ΩC_3 BK165.out);have n6_ := Ω5_3 (Ω8_3 HB.out);clear HO_14 HO_166000 HO_166001 BK146 BK147 BK165 HB;have HO_14 := n0_;have HO_166000 := n1_;have HO_166001 := n2_;have BK146 := n3_;have BK147 := n4_;have BK165 := n5_;have HB := n6_;clear n0_ n1_ n2_ n3_ n4_ n5_ n6_
                           obtain ⟨Ao76, co76, eo76⟩ := Kd.R_slice HO_14.out
                           (first | subst eo76 | (injection eo76 with f1_ f2_ f3_; have f4_ := f1_.symm; have f5_ := f3_.symm; clear f1_ f2_ f3_; subst f4_; subst f5_))
                           have p169 : 0 ≤ ((ji62) : Int) := ΩS_3 (by first | (with_reducible assumption) | assumption)
                           have q169 : (ji62) < (x14_5.length : Int) := ΩS_3 (by first | (with_reducible assumption) | assumption)
                           obtain ⟨ad169, e169, hx169_0⟩ := Kd.at_int (Kd.R_reads' HO_14.out).2.2 (ji62) p169 q169
                           cases e169
                           replace p169 := eq_true p169;replace q169 := eq_true q169
                           have p173 : 0 ≤ ((ji66) : Int) := ΩS_3 (by first | (with_reducible assumption) | assumption)
                           have q173 : (ji66) < (x14_5.length : Int) := ΩS_3 (by first | (with_reducible assumption) | assumption)
                           obtain ⟨ad173, e173, hx173_0⟩ := Kd.at_int (Kd.R_reads' HO_14.out).2.2 (ji66) p173 q173
                           obtain rfl : ad169 = ad173 := (by injection e173)
                           replace p173 := eq_true p173;replace q173 := eq_true q173
                           refine start_ (n := 28) (S := fun w' => w'.cell? ⟨gb146, 0, none⟩ = some (.slice (some ad149) l0_0.length c0_0) ∧ w'.cell? ⟨gb146, 1, none⟩ = some (.slice A0_1 l0_1.length c0_1) ∧ w'.cell? (ad169.add ((ji62)).toNat) = some (.int .i64 (rd x14_5 (ji62))) ∧ w'.cell? (ad169.add ((ji66)).toNat) = some (.int .i64 (rd x14_5 (ji66)))) (ds := []) #[false, false, false, false, false, false, false, false, false, false, false, false, false, false, false, false, false, false, false, false, false, false, false, false, false, false, false, false] (by kernel_rfl) rfl rfl ⟨(blk_cell BK146.out 0).trans rfl, (blk_cell BK146.out 1).trans rfl, hx169_0, hx173_0⟩ (fun hHeld => ?_); refine with_tabW spec_l5Pool.tab19 spec_l5Pool.bits19 (fun HT_ HW_ => ?_)
                           generalize wr.drew = w75 at HO_14 HO_166000 HO_166001 BK146 BK147 BK165 HB hx169_0 hx173_0 hHeld ⊢
                           refine pure_ (i := 1) (N := some 87) (v := ?_) (a' := ?_) #[false, true, false, false, false, false, false, false, false, false, false, false, false, false, false, false, false, false, false, false, false, false, false, false, false, false, false, false] rfl rfl (any_of HT_.out (by kernel_rfl)) (fun _ _ _ h => h) (Or.inl ⟨by rfl, ?_⟩) ?_ ?_
                           rotate_left
                           ·intro w'
                            go_simp
                            with_reducible rfl
                           rotate_left
                           ·simp only [Act.put, List.setIfInBounds_toArray, List.set_cons_zero, List.set_cons_succ, i64_w, i32_w]
                            rfl
                           refine pure_ (i := 2) (N := some 88) (v := ?_) (a' := ?_) #[false, true, true, false, false, false, false, false, false, false, false, false, false, false, false, false, false, false, false, false, false, false, false, false, false, false, false, false] rfl rfl (any_of HT_.out (by kernel_rfl)) (fun _ _ _ h => h) (Or.inl ⟨by rfl, ?_⟩) ?_ ?_
                           rotate_left
                           ·intro w'
                            go_simp
                            with_reducible rfl
                           rotate_left
                           ·simp only [Act.put, List.setIfInBounds_toArray, List.set_cons_zero, List.set_cons_succ, i64_w, i32_w]
                            rfl
                           refine pure_ (i := 3) (N := some 89) (v := ?_) (a' := ?_) #[false, true, true, true, false, false, false, false, false, false, false, false, false, false, false, false, false, false, false, false, false, false, false, false, false, false, false, false] rfl rfl (any_of HT_.out (by kernel_rfl)) (fun _ _ _ h => h) (Or.inl ⟨by rfl, ?_⟩) ?_ ?_
                           rotate_left
                           ·intro w'
                            go_simp
                            with_reducible rfl
                           rotate_left
                           ·simp only [Act.put, List.setIfInBounds_toArray, List.set_cons_zero, List.set_cons_succ, i64_w, i32_w]
                            rfl
                           refine pure_ (i := 4) (N := some 90) (v := ?_) (a' := ?_) #[false, true, true, true, true, false, false, false, false, false, false, false, false, false, false, false, false, false, false, false, false, false, false, false, false, false, false, false] rfl rfl (any_of HT_.out (by kernel_rfl)) (fun _ _ _ h => h) (Or.inl ⟨by rfl, ?_⟩) ?_ ?_
                           rotate_left
                           ·intro w'
                            go_simp
                            with_reducible rfl
                           rotate_left
                           ·simp only [Act.put, List.setIfInBounds_toArray, List.set_cons_zero, List.set_cons_succ, i64_w, i32_w]
                            rfl
                           refine pure_ (i := 5) (N := some 91) (v := ?_) (a' := ?_) #[false, true, true, true, true, true, false, false, false, false, false, false, false, false, false, false, false, false, false, false, false, false, false, false, false, false, false, false] rfl rfl (any_of HT_.out (by kernel_rfl)) (fun _ _ _ h => h) (Or.inl ⟨by rfl, ?_⟩) ?_ ?_
                           rotate_left
                           ·intro w'
                            go_simp
                            with_reducible rfl
                           rotate_left
                           ·simp only [Act.put, List.setIfInBounds_toArray, List.set_cons_zero, List.set_cons_succ, i64_w, i32_w]
                            rfl
                           refine pure_ (i := 6) (N := some 92) (v := ?_) (a' := ?_) #[false, true, true, true, true, true, true, false, false, false, false, false, false, false, false, false, false, false, false, false, false, false, false, false, false, false, false, false] rfl rfl (any_of HT_.out (by kernel_rfl)) (fun _ _ _ h => h) (Or.inl ⟨by rfl, ?_⟩) ?_ ?_
                           rotate_left
                           ·intro w'
                            go_simp
                            with_reducible rfl
                           rotate_left
                           ·simp only [Act.put, List.setIfInBounds_toArray, List.set_cons_zero, List.set_cons_succ, i64_w, i32_w]
                            rfl
                           refine pure_ (i := 7) (N := some 93) (v := ?_) (a' := ?_) #[false, true, true, true, true, true, true, true, false, false, false, false, false, false, false, false, false, false, false, false, false, false, false, false, false, false, false, false] rfl rfl (any_of HT_.out (by kernel_rfl)) (fun _ _ _ h => h) (Or.inl ⟨by rfl, ?_⟩) ?_ ?_
                           rotate_left
                           ·intro w'
                            go_simp
                            with_reducible rfl
                           rotate_left
                           ·simp only [Act.put, List.setIfInBounds_toArray, List.set_cons_zero, List.set_cons_succ, i64_w, i32_w]
                            rfl
                           refine pure_ (i := 9) (N := some 95) (v := ?_) (a' := ?_) #[false, true, true, true, true, true, true, true, false, true, false, false, false, false, false, false, false, false, false, false, false, false, false, false, false, false, false, false] rfl rfl (any_of HT_.out (by kernel_rfl)) (fun _ _ _ h => h) (Or.inl ⟨by rfl, ?_⟩) ?_ ?_
                           rotate_left
                           ·intro w'
                            go_simp
                            with_reducible rfl
                           rotate_left
                           ·simp only [Act.put, List.setIfInBounds_toArray, List.set_cons_zero, List.set_cons_succ, i64_w, i32_w]
                            rfl
                           refine pure_ (i := 11) (N := some 97) (v := ?_) (a' := ?_) #[false, true, true, true, true, true, true, true, false, true, false, true, false, false, false, false, false, false, false, false, false, false, false, false, false, false, false, false] rfl rfl (any_of HT_.out (by kernel_rfl)) (fun _ _ _ h => h) (Or.inl ⟨by rfl, ?_⟩) ?_ ?_
                           rotate_left
                           ·intro w'
                            go_simp
                            with_reducible rfl
                           rotate_left
                           ·simp only [Act.put, List.setIfInBounds_toArray, List.set_cons_zero, List.set_cons_succ, i64_w, i32_w]
                            rfl
                           refine pure_ (i := 14) (N := some 100) (v := ?_) (a' := ?_) #[false, true, true, true, true, true, true, true, false, true, false, true, false, false, true, false, false, false, false, false, false, false, false, false, false, false, false, false] rfl rfl (any_of HT_.out (by kernel_rfl)) (fun _ _ _ h => h) (Or.inl ⟨by rfl, ?_⟩) ?_ ?_
                           rotate_left
                           ·intro w'
                            go_simp
                            with_reducible rfl
                           rotate_left
                           ·simp only [Act.put, List.setIfInBounds_toArray, List.set_cons_zero, List.set_cons_succ, i64_w, i32_w]
                            rfl
                           refine pure_ (i := 15) (N := some 101) (v := ?_) (a' := ?_) #[false, true, true, true, true, true, true, true, false, true, false, true, false, false, true, true, false, false, false, false, false, false, false, false, false, false, false, false] rfl rfl (any_of HT_.out (by kernel_rfl)) (fun _ _ _ h => h) (Or.inl ⟨by rfl, ?_⟩) ?_ ?_
                           rotate_left
                           ·intro w'
                            go_simp
                            with_reducible rfl
                           rotate_left
                           ·simp only [Act.put, List.setIfInBounds_toArray, List.set_cons_zero, List.set_cons_succ, i64_w, i32_w]
                            rfl
                           refine pure_ (i := 16) (N := some 102) (v := ?_) (a' := ?_) #[false, true, true, true, true, true, true, true, false, true, false, true, false, false, true, true, true, false, false, false, false, false, false, false, false, false, false, false] rfl rfl (any_of HT_.out (by kernel_rfl)) (fun _ _ _ h => h) (Or.inl ⟨by rfl, ?_⟩) ?_ ?_
                           rotate_left
                           ·intro w'
                            go_simp
                            with_reducible rfl
                           rotate_left
                           ·simp only [Act.put, List.setIfInBounds_toArray, List.set_cons_zero, List.set_cons_succ, i64_w, i32_w]
                            rfl
                           refine pure_ (i := 17) (N := some 103) (v := ?_) (a' := ?_) #[false, true, true, true, true, true, true, true, false, true, false, true, false, false, true, true, true, true, false, false, false, false, false, false, false, false, false, false] rfl rfl (any_of HT_.out (by kernel_rfl)) (fun _ _ _ h => h) (Or.inl ⟨by rfl, ?_⟩) ?_ ?_
                           rotate_left
                           ·intro w'
                            go_simp
                            with_reducible rfl
                           rotate_left
                           ·simp only [Act.put, List.setIfInBounds_toArray, List.set_cons_zero, List.set_cons_succ, i64_w, i32_w]
                            rfl
                           refine pure_ (i := 18) (N := some 104) (v := ?_) (a' := ?_) #[false, true, true, true, true, true, true, true, false, true, false, true, false, false, true, true, true, true, true, false, false, false, false, false, false, false, false, false] rfl rfl (any_of HT_.out (by kernel_rfl)) (fun _ _ _ h => h) (Or.inl ⟨by rfl, ?_⟩) ?_ ?_
                           rotate_left
                           ·intro w'
                            go_simp
                            with_reducible rfl
                           rotate_left
                           ·simp only [Act.put, List.setIfInBounds_toArray, List.set_cons_zero, List.set_cons_succ, i64_w, i32_w]
                            rfl
                           refine pure_ (i := 19) (N := some 105) (v := ?_) (a' := ?_) #[false, true, true, true, true, true, true, true, false, true, false, true, false, false, true, true, true, true, true, true, false, false, false, false, false, false, false, false] rfl rfl (any_of HT_.out (by kernel_rfl)) (fun _ _ _ h => h) (Or.inl ⟨by rfl, ?_⟩) ?_ ?_
                           rotate_left
                           ·intro w'
                            go_simp
                            with_reducible rfl
                           rotate_left
                           ·simp only [Act.put, List.setIfInBounds_toArray, List.set_cons_zero, List.set_cons_succ, i64_w, i32_w]
                            rfl
                           refine pure_ (i := 21) (N := some 107) (v := ?_) (a' := ?_) #[false, true, true, true, true, true, true, true, false, true, false, true, false, false, true, true, true, true, true, true, false, true, false, false, false, false, false, false] rfl rfl (any_of HT_.out (by kernel_rfl)) (fun _ _ _ h => h) (Or.inl ⟨by rfl, ?_⟩) ?_ ?_
                           rotate_left
                           ·intro w'
                            go_simp
                            with_reducible rfl
                           rotate_left
                           ·simp only [Act.put, List.setIfInBounds_toArray, List.set_cons_zero, List.set_cons_succ, i64_w, i32_w]
                            rfl
                           refine pure_ (i := 23) (N := some 109) (v := ?_) (a' := ?_) #[false, true, true, true, true, true, true, true, false, true, false, true, false, false, true, true, true, true, true, true, false, true, false, true, false, false, false, false] rfl rfl (any_of HT_.out (by kernel_rfl)) (fun _ _ _ h => h) (Or.inl ⟨by rfl, ?_⟩) ?_ ?_
                           rotate_left
                           ·intro w'
                            go_simp
                            with_reducible rfl
                           rotate_left
                           ·simp only [Act.put, List.setIfInBounds_toArray, List.set_cons_zero, List.set_cons_succ, i64_w, i32_w]
                            rfl
                           refine take_ (i := 0) (N := some 86) (v := ?_) (a' := ?_) #[true, true, true, true, true, true, true, true, false, true, false, true, false, false, true, true, true, true, true, true, false, true, false, true, false, false, false, false] rfl rfl (take_ofW HT_.out HW_.out (by kernel_rfl)) (fun _ _ _ h => h) (Or.inl ⟨by rfl, ?_⟩) hHeld ?_ ?_
                           rotate_left
                           ·rintro w' ⟨s0, s1, s2, s3⟩
                            go_simp
                            with_reducible rfl
                           rotate_left
                           ·simp only [Act.put, List.setIfInBounds_toArray, List.set_cons_zero, List.set_cons_succ, i64_w, i32_w]
                            rfl
                           refine take_ (i := 8) (N := some 94) (v := ?_) (a' := ?_) #[true, true, true, true, true, true, true, true, true, true, false, true, false, false, true, true, true, true, true, true, false, true, false, true, false, false, false, false] rfl rfl (take_ofW HT_.out HW_.out (by kernel_rfl)) (fun _ _ _ h => h) (Or.inl ⟨by rfl, ?_⟩) hHeld ?_ ?_
                           rotate_left
                           ·rintro w' ⟨s0, s1, s2, s3⟩
                            go_simp
                            with_reducible rfl
                           rotate_left
                           ·simp only [Act.put, List.setIfInBounds_toArray, List.set_cons_zero, List.set_cons_succ, i64_w, i32_w]
                            rfl
                           refine pure_ (i := 10) (N := some 96) (v := ?_) (a' := ?_) #[true, true, true, true, true, true, true, true, true, true, true, true, false, false, true, true, true, true, true, true, false, true, false, true, false, false, false, false] rfl rfl (any_of HT_.out (by kernel_rfl)) (fun _ _ _ h => h) (Or.inl ⟨by rfl, ?_⟩) ?_ ?_
                           rotate_left
                           ·intro w'
                            go_simp
                            with_reducible rfl
                           rotate_left
                           ·simp only [Act.put, List.setIfInBounds_toArray, List.set_cons_zero, List.set_cons_succ, i64_w, i32_w]
                            rfl
                           refine pure_ (i := 12) (N := some 98) (v := ?_) (a' := ?_) #[true, true, true, true, true, true, true, true, true, true, true, true, true, false, true, true, true, true, true, true, false, true, false, true, false, false, false, false] rfl rfl (any_of HT_.out (by kernel_rfl)) (fun _ _ _ h => h) (Or.inl ⟨by rfl, ?_⟩) ?_ ?_
                           rotate_left
                           ·intro w'
                            go_simp
                            with_reducible rfl
                           rotate_left
                           ·simp only [Act.put, List.setIfInBounds_toArray, List.set_cons_zero, List.set_cons_succ, i64_w, i32_w]
                            rfl
                           refine take_ (i := 20) (N := some 106) (v := ?_) (a' := ?_) #[true, true, true, true, true, true, true, true, true, true, true, true, true, false, true, true, true, true, true, true, true, true, false, true, false, false, false, false] rfl rfl (take_ofW HT_.out HW_.out (by kernel_rfl)) (fun _ _ _ h => h) (Or.inl ⟨by rfl, ?_⟩) hHeld ?_ ?_
                           rotate_left
                           ·rintro w' ⟨s0, s1, s2, s3⟩
                            go_simp
                            with_reducible rfl
                           rotate_left
                           ·simp only [Act.put, List.setIfInBounds_toArray, List.set_cons_zero, List.set_cons_succ, i64_w, i32_w]
                            rfl
                           refine pure_ (i := 22) (N := some 108) (v := ?_) (a' := ?_) #[true, true, true, true, true, true, true, true, true, true, true, true, true, false, true, true, true, true, true, true, true, true, true, true, false, false, false, false] rfl rfl (any_of HT_.out (by kernel_rfl)) (fun _ _ _ h => h) (Or.inl ⟨by rfl, ?_⟩) ?_ ?_
                           rotate_left
                           ·intro w'
                            go_simp
                            with_reducible rfl
                           rotate_left
                           ·simp only [Act.put, List.setIfInBounds_toArray, List.set_cons_zero, List.set_cons_succ, i64_w, i32_w]
                            rfl
                           refine pure_ (i := 24) (N := some 110) (v := ?_) (a' := ?_) #[true, true, true, true, true, true, true, true, true, true, true, true, true, false, true, true, true, true, true, true, true, true, true, true, true, false, false, false] rfl rfl (any_of HT_.out (by kernel_rfl)) (fun _ _ _ h => h) (Or.inl ⟨by rfl, ?_⟩) ?_ ?_
                           rotate_left
                           ·intro w'
                            go_simp
                            with_reducible rfl
                           rotate_left
                           ·simp only [Act.put, List.setIfInBounds_toArray, List.set_cons_zero, List.set_cons_succ, i64_w, i32_w]
                            rfl
                           refine one_ (i := 13) (N := some 99) #[true, true, true, true, true, true, true, true, true, true, true, true, true, true, true, true, true, true, true, true, true, true, true, true, true, false, false, false] rfl rfl (one_of HT_.out (by kernel_rfl)) (by decide) (fun K hK => ?_)
                           refine goes_ Try.func84 (by kernel_rfl) rfl #[.slice (some ad169) x14_5.length co76, .int .i64 ji62, .int .i64 (wrap64 ((wrap64 ((rd x14_5 (ji62)) * a2)) + x15_4))] (by rfl) rfl rfl (by (try simp only [List.map_toArray, List.map_cons, List.map_nil]); first | done | (simp only [hji62]; rfl) | rfl | (simp only [List.length_drop, List.length_take]; rfl)) ?_
                           with_reducible refine (spec_l4With.calls _ _ x14_5 ji62 (wrap64 ((wrap64 ((rd x14_5 (ji62)) * a2)) + x15_4)) t170 _ ?side1 ?side2 A65.out).mono ?_
                           (case side1 => repeat (first | exact (Kd.R_reads' HO_14.out).2.2 | (with_reducible refine Kd.C_alloc ?_ _) | (with_reducible refine Kd.C_drewN ?_ _) | (with_reducible refine Kd.C_drew ?_)))
                           (case side2 => exact (Kd.R_reads' HO_14.out).2.1)
                           rintro e w77 ⟨v171, rfl, ho0, hb⟩
                           have HS2_ := (hb.cell (World.block_lt_of_cell? _ _ (hHeld.2.2.1))).trans (hHeld.2.2.1)
                           have HS3_ := (hb.cell (World.block_lt_of_cell? _ _ (hHeld.2.2.2))).trans (hHeld.2.2.2)
                           refine ⟨_, rfl, ?_⟩
                           have n0_ := Ω5_3 (Kd.R_elder' (by (with_reducible repeat (first | apply Ω1_3 | apply Ω2_3 | apply Ω3_3)); exact HO_14.out) (Kd.R_base ho0) hb);have n1_ := Ω5_3 (Kd.R_elder' (by (with_reducible repeat (first | apply Ω1_3 | apply Ω2_3 | apply Ω3_3)); exact HO_166000.out) (Kd.R_base ho0) hb);have n2_ := Ω5_3 (Kd.R_elder' (by (with_reducible repeat (first | apply Ω1_3 | apply Ω2_3 | apply Ω3_3)); exact HO_166001.out) (Kd.R_base ho0) hb);have n3_ := Ω5_3 (Kd.R_lower (Kd.R_new' (Kd.R_new' (Kd.R_new' ho0 (Kd.R_lt (by (with_reducible repeat (first | apply Ω1_3 | apply Ω2_3 | apply Ω3_3)); exact HO_14.out))) (Kd.R_lt (by (with_reducible repeat (first | apply Ω1_3 | apply Ω2_3 | apply Ω3_3)); exact HO_166000.out))) (Kd.R_lt (by (with_reducible repeat (first | apply Ω1_3 | apply Ω2_3 | apply Ω3_3)); exact HO_166001.out))) (below_size (by repeat (first | (with_reducible first | exact HB.out | apply Ω6_3 | apply Ω7_3 | apply Ω8_3 | refine Ω9_3 ?_ GE146.out | refine Ω9_3 ?_ GE147.out | refine Ω9_3 ?_ GE165.out) | exact HB.out))));have n4_ := Ω5_3 (blk_below (g := gb146) (o := .cells #[.slice (some ad149) l0_0.length c0_0, .slice A0_1 l0_1.length c0_1] 56 (0, 0)) (by (with_reducible repeat (first | refine ΩA_3 ?_ _ | refine ΩC_3 ?_ | refine ΩB_3 ?_ _)); exact BK146.out) hb);have n5_ := Ω5_3 (blk_below (g := gb147) (o := .cells #[.slice none 0 0, .slice none 0 0] 56 (0, 0)) (by (with_reducible repeat (first | refine ΩA_3 ?_ _ | refine ΩC_3 ?_ | refine ΩB_3 ?_ _)); exact BK147.out) hb);have n6_ := Ω5_3 (blk_below (g := gb165) (o := .cells #[u166000, u166001] 56 (0, 0)) (by (with_reducible repeat (first | refine ΩA_3 ?_ _ | refine ΩC_3 ?_ | refine ΩB_3 ?_ _)); exact BK165.out) hb);have n7_ := Ω5_3 (below_step (by repeat (first | (with_reducible first | exact HB.out | apply Ω6_3 | apply Ω7_3 | apply Ω8_3 | refine Ω9_3 ?_ GE146.out | refine Ω9_3 ?_ GE147.out | refine Ω9_3 ?_ GE165.out) | exact HB.out)) hb);clear HO_14 HO_166000 HO_166001 BK146 BK147 BK165 HB;have HO_14 := n0_;have HO_166000 := n1_;have HO_166001 := n2_;have HO172 := n3_;have BK146 := n4_;have BK147 := n5_;have BK165 := n6_;have HB := n7_;clear n0_ n1_ n2_ n3_ n4_ n5_ n6_ n7_
                           (try clear hb)
                           (try clear hb2)
                           (try clear hk)
                           (try clear hi)
                           (try clear ho0)
                           obtain ⟨Ao78, co78, eo78⟩ := Kd.R_slice HO172.out
                           (first | subst eo78 | (injection eo78 with f1_ f2_ f3_; have f4_ := f1_.symm; have f5_ := f3_.symm; clear f1_ f2_ f3_; subst f4_; subst f5_))
                           refine hK.out _ _ ⟨(blk_cell BK146.out 0).trans rfl, (blk_cell BK146.out 1).trans rfl, HS2_, HS3_⟩ (fun hHeld => ?_)
                           clear hK K
                           refine norm_ (a' := ?_) ?_ ?_
                           rotate_left
                           ·show Act.put _ (some 99) _ = _
                            simp only [Act.put, List.setIfInBounds_toArray, List.set_cons_zero, List.set_cons_succ, i64_w, i32_w]
                            rfl
                           refine one_ (i := 25) (N := some 111) #[true, true, true, true, true, true, true, true, true, true, true, true, true, true, true, true, true, true, true, true, true, true, true, true, true, true, false, false] rfl rfl (one_of HT_.out (by kernel_rfl)) (by decide) (fun K hK => ?_)
                           refine goes_ Try.func84 (by kernel_rfl) rfl #[.slice Ao78 t170.length co78, .int .i64 ji66, .int .i64 (wrap64 ((wrap64 ((rd x14_5 (ji66)) * a2)) + x16_5))] (by rfl) rfl rfl (by (try simp only [List.map_toArray, List.map_cons, List.map_nil]); first | done | (simp only [hji66]; rfl) | rfl | (simp only [List.length_drop, List.length_take]; rfl)) ?_
                           with_reducible refine (spec_l4With.calls _ _ t170 ji66 (wrap64 ((wrap64 ((rd x14_5 (ji66)) * a2)) + x16_5)) t174 _ ?side1 ?side2 A69.out).mono ?_
                           (case side1 => repeat (first | exact (Kd.R_reads' HO172.out).2.2 | (with_reducible refine Kd.C_alloc ?_ _) | (with_reducible refine Kd.C_drewN ?_ _) | (with_reducible refine Kd.C_drew ?_)))
                           (case side2 => exact (Kd.R_reads' HO172.out).2.1)
                           rintro e w79 ⟨v175, rfl, ho0, hb⟩
                           have HS2_ := (hb.cell (World.block_lt_of_cell? _ _ (hHeld.2.2.1))).trans (hHeld.2.2.1)
                           have HS3_ := (hb.cell (World.block_lt_of_cell? _ _ (hHeld.2.2.2))).trans (hHeld.2.2.2)
                           refine ⟨_, rfl, ?_⟩
                           have n0_ := Ω5_3 (Kd.R_elder' (by (with_reducible repeat (first | apply Ω1_3 | apply Ω2_3 | apply Ω3_3)); exact HO_14.out) (Kd.R_base ho0) hb);have n1_ := Ω5_3 (Kd.R_elder' (by (with_reducible repeat (first | apply Ω1_3 | apply Ω2_3 | apply Ω3_3)); exact HO_166000.out) (Kd.R_base ho0) hb);have n2_ := Ω5_3 (Kd.R_elder' (by (with_reducible repeat (first | apply Ω1_3 | apply Ω2_3 | apply Ω3_3)); exact HO_166001.out) (Kd.R_base ho0) hb);have n3_ := Ω5_3 (Kd.R_elder' (by (with_reducible repeat (first | apply Ω1_3 | apply Ω2_3 | apply Ω3_3)); exact HO172.out) (Kd.R_base ho0) hb);have n4_ := Ω5_3 (Kd.R_lower (Kd.R_new' (Kd.R_new' (Kd.R_new' (Kd.R_new' ho0 (Kd.R_lt (by (with_reducible repeat (first | apply Ω1_3 | apply Ω2_3 | apply Ω3_3)); exact HO_14.out))) (Kd.R_lt (by (with_reducible repeat (first | apply Ω1_3 | apply Ω2_3 | apply Ω3_3)); exact HO_166000.out))) (Kd.R_lt (by (with_reducible repeat (first | apply Ω1_3 | apply Ω2_3 | apply Ω3_3)); exact HO_166001.out))) (Kd.R_lt (by (with_reducible repeat (first | apply Ω1_3 | apply Ω2_3 | apply Ω3_3)); exact HO172.out))) (below_size (by repeat (first | (with_reducible first | exact HB.out | apply Ω6_3 | apply Ω7_3 | apply Ω8_3 | refine Ω9_3 ?_ GE146.out | refine Ω9_3 ?_ GE147.out | refine Ω9_3 ?_ GE165.out) | exact HB.out))));have n5_ := Ω5_3 (blk_below (g := gb146) (o := .cells #[.slice (some ad149) l0_0.length c0_0, .slice A0_1 l0_1.length c0_1] 56 (0, 0)) (by (with_reducible repeat (first | refine ΩA_3 ?_ _ | refine ΩC_3 ?_ | refine ΩB_3 ?_ _)); exact BK146.out) hb);have n6_ := Ω5_3 (blk_below (g := gb147) (o := .cells #[.slice none 0 0, .slice none 0 0] 56 (0, 0)) (by (with_reducible repeat (first | refine ΩA_3 ?_ _ | refine ΩC_3 ?_ | refine ΩB_3 ?_ _)); exact BK147.out) hb);have n7_ := Ω5_3 (blk_below (g := gb165) (o := .cells #[u166000, u166001] 56 (0, 0)) (by (with_reducible repeat (first | refine ΩA_3 ?_ _ | refine ΩC_3 ?_ | refine ΩB_3 ?_ _)); exact BK165.out) hb);have n8_ := Ω5_3 (below_step (by repeat (first | (with_reducible first | exact HB.out | apply Ω6_3 | apply Ω7_3 | apply Ω8_3 | refine Ω9_3 ?_ GE146.out | refine Ω9_3 ?_ GE147.out | refine Ω9_3 ?_ GE165.out) | exact HB.out)) hb);clear HO_14 HO_166000 HO_166001 HO172 BK146 BK147 BK165 HB;have HO_14 := n0_;have HO_166000 := n1_;have HO_166001 := n2_;have HO172 := n3_;have HO176 := n4_;have BK146 := n5_;have BK147 := n6_;have BK165 := n7_;have HB := n8_;clear n0_ n1_ n2_ n3_ n4_ n5_ n6_ n7_ n8_
                           (try clear hb)
                           (try clear hb2)
                           (try clear hk)
                           (try clear hi)
                           (try clear ho0)
                           obtain ⟨Ao80, co80, eo80⟩ := Kd.R_slice HO176.out
                           (first | subst eo80 | (injection eo80 with f1_ f2_ f3_; have f4_ := f1_.symm; have f5_ := f3_.symm; clear f1_ f2_ f3_; subst f4_; subst f5_))
                           refine hK.out _ _ ⟨(blk_cell BK146.out 0).trans rfl, (blk_cell BK146.out 1).trans rfl, HS2_, HS3_⟩ (fun hHeld => ?_)
                           clear hK K
                           refine norm_ (a' := ?_) ?_ ?_
                           rotate_left
                           ·show Act.put _ (some 111) _ = _
                            simp only [Act.put, List.setIfInBounds_toArray, List.set_cons_zero, List.set_cons_succ, i64_w, i32_w]
                            rfl
                           refine one_ (i := 26) (N := some 112) #[true, true, true, true, true, true, true, true, true, true, true, true, true, true, true, true, true, true, true, true, true, true, true, true, true, true, true, false] rfl rfl (one_of HT_.out (by kernel_rfl)) (by decide) (fun K hK => ?_)
                           refine goes_ Try.func86 (by kernel_rfl) rfl #[.agg #[.slice (some ad149) l0_0.length c0_0, .slice A0_1 l0_1.length c0_1], .slice Ao80 t174.length co80] (by rfl) rfl rfl (by (try simp only [List.map_toArray, List.map_cons, List.map_nil]); first | done | rfl | (simp only [List.length_drop, List.length_take]; rfl)) ?_
                           with_reducible refine (spec_l4Get.calls k5 _ _ l0_0 _ _ l0_1 _ _ t174 t177 _ ?side1 ?side2 ?side3 ?side4 ?side5 ?side6 A70.out).mono ?_
                           (case side1 => repeat (first | exact (Kd.C_below HR0_0.out HB.out) | (with_reducible refine Kd.C_alloc ?_ _) | (with_reducible refine Kd.C_drewN ?_ _) | (with_reducible refine Kd.C_drew ?_)))
                           (case side2 => exact HC0_0.out)
                           (case side3 => repeat (first | exact (Kd.C_below HR0_1.out HB.out) | (with_reducible refine Kd.C_alloc ?_ _) | (with_reducible refine Kd.C_drewN ?_ _) | (with_reducible refine Kd.C_drew ?_)))
                           (case side4 => exact HC0_1.out)
                           (case side5 => repeat (first | exact (Kd.R_reads' HO176.out).2.2 | (with_reducible refine Kd.C_alloc ?_ _) | (with_reducible refine Kd.C_drewN ?_ _) | (with_reducible refine Kd.C_drew ?_)))
                           (case side6 => exact (Kd.R_reads' HO176.out).2.1)
                           rintro e w81 ⟨rfl, hb⟩
                           have HS2_ := (hb.cell (World.block_lt_of_cell? _ _ (hHeld.2.2.1))).trans (hHeld.2.2.1)
                           have HS3_ := (hb.cell (World.block_lt_of_cell? _ _ (hHeld.2.2.2))).trans (hHeld.2.2.2)
                           refine ⟨_, rfl, ?_⟩
                           have n0_ := Ω5_3 (Kd.R_below (by (with_reducible repeat (first | apply Ω1_3 | apply Ω2_3 | apply Ω3_3)); exact HO_14.out) hb);have n1_ := Ω5_3 (Kd.R_below (by (with_reducible repeat (first | apply Ω1_3 | apply Ω2_3 | apply Ω3_3)); exact HO_166000.out) hb);have n2_ := Ω5_3 (Kd.R_below (by (with_reducible repeat (first | apply Ω1_3 | apply Ω2_3 | apply Ω3_3)); exact HO_166001.out) hb);have n3_ := Ω5_3 (Kd.R_below (by (with_reducible repeat (first | apply Ω1_3 | apply Ω2_3 | apply Ω3_3)); exact HO172.out) hb);have n4_ := Ω5_3 (Kd.R_below (by (with_reducible repeat (first | apply Ω1_3 | apply Ω2_3 | apply Ω3_3)); exact HO176.out) hb);have n5_ := Ω5_3 (blk_below (g := gb146) (o := .cells #[.slice (some ad149) l0_0.length c0_0, .slice A0_1 l0_1.length c0_1] 56 (0, 0)) (by (with_reducible repeat (first | refine ΩA_3 ?_ _ | refine ΩC_3 ?_ | refine ΩB_3 ?_ _)); exact BK146.out) hb);have n6_ := Ω5_3 (blk_below (g := gb147) (o := .cells #[.slice none 0 0, .slice none 0 0] 56 (0, 0)) (by (with_reducible repeat (first | refine ΩA_3 ?_ _ | refine ΩC_3 ?_ | refine ΩB_3 ?_ _)); exact BK147.out) hb);have n7_ := Ω5_3 (blk_below (g := gb165) (o := .cells #[u166000, u166001] 56 (0, 0)) (by (with_reducible repeat (first | refine ΩA_3 ?_ _ | refine ΩC_3 ?_ | refine ΩB_3 ?_ _)); exact BK165.out) hb);have n8_ := Ω5_3 (below_step (by repeat (first | (with_reducible first | exact HB.out | apply Ω6_3 | apply Ω7_3 | apply Ω8_3 | refine Ω9_3 ?_ GE146.out | refine Ω9_3 ?_ GE147.out | refine Ω9_3 ?_ GE165.out) | exact HB.out)) hb);clear HO_14 HO_166000 HO_166001 HO172 HO176 BK146 BK147 BK165 HB;have HO_14 := n0_;have HO_166000 := n1_;have HO_166001 := n2_;have HO172 := n3_;have HO176 := n4_;have BK146 := n5_;have BK147 := n6_;have BK165 := n7_;have HB := n8_;clear n0_ n1_ n2_ n3_ n4_ n5_ n6_ n7_ n8_
                           (try clear hb)
                           (try clear hb2)
                           (try clear hk)
                           (try clear hi)
                           refine hK.out _ _ ⟨(blk_cell BK146.out 0).trans rfl, (blk_cell BK146.out 1).trans rfl, HS2_, HS3_⟩ (fun hHeld => ?_)
                           clear hK K
                           refine norm_ (a' := ?_) ?_ ?_
                           rotate_left
                           ·show Act.put _ (some 112) _ = _
                            simp only [Act.put, List.setIfInBounds_toArray, List.set_cons_zero, List.set_cons_succ, i64_w, i32_w]
                            rfl
                           refine pure_ (i := 27) (N := some 17) (v := ?_) (a' := ?_) #[true, true, true, true, true, true, true, true, true, true, true, true, true, true, true, true, true, true, true, true, true, true, true, true, true, true, true, true] rfl rfl (any_of HT_.out (by kernel_rfl)) (fun _ _ _ h => h) (Or.inl ⟨by rfl, ?_⟩) ?_ ?_
                           rotate_left
                           ·intro w'
                            go_simp
                            with_reducible rfl
                           rotate_left
                           ·simp only [Act.put, List.setIfInBounds_toArray, List.set_cons_zero, List.set_cons_succ, i64_w, i32_w]
                            rfl
                           refine done_ (done_of HT_.out (by kernel_rfl)) ?_
                           try go_wp2
                           have n0_ := Ω5_3 (Ω3_3 HO_14.out);have n1_ := Ω5_3 (Ω3_3 HO_166000.out);have n2_ := Ω5_3 (Ω3_3 HO_166001.out);have n3_ := Ω5_3 (Ω3_3 HO172.out);have n4_ := Ω5_3 (Ω3_3 HO176.out);have n5_ := Ω5_3 (ΩC_3 BK146.out);have n6_ := Ω5_3 (ΩC_3 BK147.out);have n7_ := Ω5_3 (ΩC_3 BK165.out);have n8_ := Ω5_3 (Ω8_3 HB.out);clear HO_14 HO_166000 HO_166001 HO172 HO176 BK146 BK147 BK165 HB;have HO_14 := n0_;have HO_166000 := n1_;have HO_166001 := n2_;have HO172 := n3_;have HO176 := n4_;have BK146 := n5_;have BK147 := n6_;have BK165 := n7_;have HB := n8_;clear n0_ n1_ n2_ n3_ n4_ n5_ n6_ n7_ n8_
                           refine start_ (n := 15) (S := fun w' => True) (ds := []) #[false, false, false, false, false, false, false, false, false, false, false, false, false, false, false] (by kernel_rfl) rfl rfl trivial (fun hHeld => ?_); refine with_tabW spec_l5Pool.tab22 spec_l5Pool.bits22 (fun HT_ HW_ => ?_)
                           generalize w81.drew = w82 at HO_14 HO_166000 HO_166001 HO172 HO176 BK146 BK147 BK165 HB hHeld ⊢
                           refine pure_ (i := 0) (N := some 126) (v := ?_) (a' := ?_) #[true, false, false, false, false, false, false, false, false, false, false, false, false, false, false] rfl rfl (any_of HT_.out (by kernel_rfl)) (fun _ _ _ h => h) (Or.inl ⟨by rfl, ?_⟩) ?_ ?_
                           rotate_left
                           ·intro w'
                            go_simp
                            with_reducible rfl
                           rotate_left
                           ·simp only [Act.put, List.setIfInBounds_toArray, List.set_cons_zero, List.set_cons_succ, i64_w, i32_w]
                            rfl
                           refine pure_ (i := 1) (N := some 127) (v := ?_) (a' := ?_) #[true, true, false, false, false, false, false, false, false, false, false, false, false, false, false] rfl rfl (any_of HT_.out (by kernel_rfl)) (fun _ _ _ h => h) (Or.inl ⟨by rfl, ?_⟩) ?_ ?_
                           rotate_left
                           ·intro w'
                            go_simp
                            with_reducible rfl
                           rotate_left
                           ·simp only [Act.put, List.setIfInBounds_toArray, List.set_cons_zero, List.set_cons_succ, i64_w, i32_w]
                            rfl
                           refine pure_ (i := 2) (N := some 128) (v := ?_) (a' := ?_) #[true, true, true, false, false, false, false, false, false, false, false, false, false, false, false] rfl rfl (any_of HT_.out (by kernel_rfl)) (fun _ _ _ h => h) (Or.inl ⟨by rfl, ?_⟩) ?_ ?_
                           rotate_left
                           ·intro w'
                            go_simp
                            with_reducible rfl
                           rotate_left
                           ·simp only [Act.put, List.setIfInBounds_toArray, List.set_cons_zero, List.set_cons_succ, i64_w, i32_w]
                            rfl
                           refine pure_ (i := 3) (N := some 129) (v := ?_) (a' := ?_) #[true, true, true, true, false, false, false, false, false, false, false, false, false, false, false] rfl rfl (any_of HT_.out (by kernel_rfl)) (fun _ _ _ h => h) (Or.inl ⟨by rfl, ?_⟩) ?_ ?_
                           rotate_left
                           ·intro w'
                            go_simp
                            with_reducible rfl
                           rotate_left
                           ·simp only [Act.put, List.setIfInBounds_toArray, List.set_cons_zero, List.set_cons_succ, i64_w, i32_w]
                            rfl
                           refine pure_ (i := 4) (N := some 130) (v := ?_) (a' := ?_) #[true, true, true, true, true, false, false, false, false, false, false, false, false, false, false] rfl rfl (any_of HT_.out (by kernel_rfl)) (fun _ _ _ h => h) (Or.inl ⟨by rfl, ?_⟩) ?_ ?_
                           rotate_left
                           ·intro w'
                            go_simp
                            with_reducible rfl
                           rotate_left
                           ·simp only [Act.put, List.setIfInBounds_toArray, List.set_cons_zero, List.set_cons_succ, i64_w, i32_w]
                            rfl
                           refine pure_ (i := 5) (N := some 131) (v := undef) (a' := ?_) #[true, true, true, true, true, true, false, false, false, false, false, false, false, false, false] rfl rfl (any_of HT_.out (by kernel_rfl)) (fun _ _ _ h => h) (Or.inr ⟨by rfl, rfl⟩) ?_ ?_
                           rotate_left
                           ·simp only [Act.put, List.setIfInBounds_toArray, List.set_cons_zero, List.set_cons_succ, i64_w, i32_w]
                            rfl
                           refine pure_ (i := 6) (N := some 132) (v := undef) (a' := ?_) #[true, true, true, true, true, true, true, false, false, false, false, false, false, false, false] rfl rfl (any_of HT_.out (by kernel_rfl)) (fun _ _ _ h => h) (Or.inr ⟨by rfl, rfl⟩) ?_ ?_
                           rotate_left
                           ·simp only [Act.put, List.setIfInBounds_toArray, List.set_cons_zero, List.set_cons_succ, i64_w, i32_w]
                            rfl
                           refine pure_ (i := 7) (N := some 133) (v := undef) (a' := ?_) #[true, true, true, true, true, true, true, true, false, false, false, false, false, false, false] rfl rfl (any_of HT_.out (by kernel_rfl)) (fun _ _ _ h => h) (Or.inr ⟨by rfl, rfl⟩) ?_ ?_
                           rotate_left
                           ·simp only [Act.put, List.setIfInBounds_toArray, List.set_cons_zero, List.set_cons_succ, i64_w, i32_w]
                            rfl
                           refine pure_ (i := 8) (N := some 134) (v := undef) (a' := ?_) #[true, true, true, true, true, true, true, true, true, false, false, false, false, false, false] rfl rfl (any_of HT_.out (by kernel_rfl)) (fun _ _ _ h => h) (Or.inr ⟨by rfl, rfl⟩) ?_ ?_
                           rotate_left
                           ·simp only [Act.put, List.setIfInBounds_toArray, List.set_cons_zero, List.set_cons_succ, i64_w, i32_w]
                            rfl
                           refine pure_ (i := 9) (N := some 135) (v := undef) (a' := ?_) #[true, true, true, true, true, true, true, true, true, true, false, false, false, false, false] rfl rfl (any_of HT_.out (by kernel_rfl)) (fun _ _ _ h => h) (Or.inr ⟨by rfl, rfl⟩) ?_ ?_
                           rotate_left
                           ·simp only [Act.put, List.setIfInBounds_toArray, List.set_cons_zero, List.set_cons_succ, i64_w, i32_w]
                            rfl
                           refine pure_ (i := 10) (N := some 136) (v := undef) (a' := ?_) #[true, true, true, true, true, true, true, true, true, true, true, false, false, false, false] rfl rfl (any_of HT_.out (by kernel_rfl)) (fun _ _ _ h => h) (Or.inr ⟨by rfl, rfl⟩) ?_ ?_
                           rotate_left
                           ·simp only [Act.put, List.setIfInBounds_toArray, List.set_cons_zero, List.set_cons_succ, i64_w, i32_w]
                            rfl
                           refine pure_ (i := 11) (N := some 137) (v := undef) (a' := ?_) #[true, true, true, true, true, true, true, true, true, true, true, true, false, false, false] rfl rfl (any_of HT_.out (by kernel_rfl)) (fun _ _ _ h => h) (Or.inr ⟨by rfl, rfl⟩) ?_ ?_
                           rotate_left
                           ·simp only [Act.put, List.setIfInBounds_toArray, List.set_cons_zero, List.set_cons_succ, i64_w, i32_w]
                            rfl
                           refine pure_ (i := 12) (N := some 138) (v := undef) (a' := ?_) #[true, true, true, true, true, true, true, true, true, true, true, true, true, false, false] rfl rfl (any_of HT_.out (by kernel_rfl)) (fun _ _ _ h => h) (Or.inr ⟨by rfl, rfl⟩) ?_ ?_
                           rotate_left
                           ·simp only [Act.put, List.setIfInBounds_toArray, List.set_cons_zero, List.set_cons_succ, i64_w, i32_w]
                            rfl
                           refine pure_ (i := 13) (N := some 139) (v := undef) (a' := ?_) #[true, true, true, true, true, true, true, true, true, true, true, true, true, true, false] rfl rfl (any_of HT_.out (by kernel_rfl)) (fun _ _ _ h => h) (Or.inr ⟨by rfl, rfl⟩) ?_ ?_
                           rotate_left
                           ·simp only [Act.put, List.setIfInBounds_toArray, List.set_cons_zero, List.set_cons_succ, i64_w, i32_w]
                            rfl
                           refine pure_ (i := 14) (N := some 140) (v := ?_) (a' := ?_) #[true, true, true, true, true, true, true, true, true, true, true, true, true, true, true] rfl rfl (any_of HT_.out (by kernel_rfl)) (fun _ _ _ h => h) (Or.inl ⟨by rfl, ?_⟩) ?_ ?_
                           rotate_left
                           ·intro w'
                            go_simp
                            with_reducible rfl
                           rotate_left
                           ·simp only [Act.put, List.setIfInBounds_toArray, List.set_cons_zero, List.set_cons_succ, i64_w, i32_w]
                            rfl
                           refine done_ (done_of HT_.out (by kernel_rfl)) ?_
                           have hnb83 := NB165_146.out;have hnc83 := NB146_165.out;have hnb84 := NB165_147.out;have hnc84 := NB147_165.out;have hcz85_0 : w82.cell? ⟨gb165, 0, none⟩ = some (u166000) := (blk_cell BK165.out 0).trans rfl;have hcz85_1 : w82.cell? ⟨gb165, 1, none⟩ = some (u166001) := (blk_cell BK165.out 1).trans rfl;have hfz85_0 := blk_frozen BK165.out 0;have hfz85_1 := blk_frozen BK165.out 1
                           have p74 : 0 ≤ (x13_3 : Int) := ΩS_3 (by first | (with_reducible assumption) | assumption)
                           have q74 : (x13_3 : Int) < ((x166001_5.length : Int) : Int) := ΩS_3 (by first | (with_reducible assumption) | assumption)
                           obtain ⟨go74, co74, eo74, gb74, gl74, cl74, HG74⟩ := Kd.R_form HO_166001.out (by omega)
                           (first | cases eo74 | (injection eo74 with ea_ en_ ec_; (first | subst ea_ | (injection ea_ with ea_; subst ea_)); subst ec_; clear en_))
                           have GB74 := Ω5_3 gb74
                           have GG74 := Ω5_3 HG74
                           clear gb74 gl74 HG74
                           obtain ⟨hx74_0, hf74_0⟩ := Kd.R_celln 0 HO_166001.out (x13_3 : Int) p74 q74
                           replace p74 := eq_true p74;replace q74 := eq_true q74;have n_ := Ω5_3 (Kd.R_mono (ok' := (fun k_ => some k_ ≠ (.slice (some ad169) x14_5.length co76 : Value).ownBlock ∧ some k_ ≠ (u166000 : Value).ownBlock ∧ some k_ ≠ (.slice Ao78 t170.length co78 : Value).ownBlock ∧ some k_ ≠ (.slice Ao80 t174.length co80 : Value).ownBlock)) HO_166001.out (fun k_ hk => ⟨hk.1.1.1, ⟨hk.1.1.2, ⟨hk.1.2, hk.2⟩⟩⟩));clear HO_166001;have HO_166001 := n_;clear n_
                           obtain ⟨hy86_, hz86_⟩ := Kd.R_celln 0 HO_166001.out (x13_3 : Int) (ΩS_3 (by first | (with_reducible assumption) | assumption)) (ΩS_3 (by first | (with_reducible assumption) | assumption))
                           have HP86 := Kd.R_putg HO_166001.out (x13_3 : Int) t177
                           try go_wp2_with (first | ((with_reducible refine gate_store (t := 3) (p := 145) rfl ?_); refine store_event (t := 3) (p := 145) (v := ?vo_w87) (w1 := (w82.setCell ⟨go74, (x13_3 : Int).toNat, none⟩ (.int .i64 t177))) ?hg ?ho ?hn ?hr ?_; (case ho => rfl); (case hg => rfl); (case hn => rfl); (case hr => first | (go_simp; done) | (go_simp; rfl)); intro w87 hw; have hg : w82.grownBy w87 (some go74) := (by rw [hw]; exact HP86.2); have hp_ : Kd.R (Kd.int .i64) 3 w87 w.heap.size (fun k_ => some k_ ≠ (.slice (some ad169) x14_5.length co76 : Value).ownBlock ∧ some k_ ≠ (u166000 : Value).ownBlock ∧ some k_ ≠ (.slice Ao78 t170.length co78 : Value).ownBlock ∧ some k_ ≠ (.slice Ao80 t174.length co80 : Value).ownBlock) (.slice (some ⟨go74, 0, none⟩) x166001_5.length co74) y181 := (by rw [hw, Ny181.out]; exact HP86.1); clear HP86; have n0_ := Ω5_3 (Kd.R_after (v := (.slice (some ⟨go74, 0, none⟩) x166001_5.length co74)) (v1 := (.slice (some ⟨go74, 0, none⟩) x166001_5.length co74)) (ok := (fun k_ => some k_ ≠ (u166000 : Value).ownBlock ∧ some k_ ≠ (.slice Ao78 t170.length co78 : Value).ownBlock ∧ some k_ ≠ (.slice Ao80 t174.length co80 : Value).ownBlock)) (by (with_reducible repeat (first | apply Ω1_3 | apply Ω2_3 | apply Ω3_3)); exact Kd.R_mono HO_14.out (fun _ hk => ⟨⟨hk.1.1.1, ⟨hk.1.2, hk.2⟩⟩, hk.1.1.2⟩)) hg (.inl rfl)); have n1_ := Ω5_3 (Kd.R_after (v := (.slice (some ⟨go74, 0, none⟩) x166001_5.length co74)) (v1 := (.slice (some ⟨go74, 0, none⟩) x166001_5.length co74)) (ok := (fun k_ => some k_ ≠ (.slice (some ad169) x14_5.length co76 : Value).ownBlock ∧ some k_ ≠ (.slice Ao78 t170.length co78 : Value).ownBlock ∧ some k_ ≠ (.slice Ao80 t174.length co80 : Value).ownBlock)) (by (with_reducible repeat (first | apply Ω1_3 | apply Ω2_3 | apply Ω3_3)); exact Kd.R_mono HO_166000.out (fun _ hk => ⟨⟨hk.1.1.1, ⟨hk.1.2, hk.2⟩⟩, hk.1.1.2⟩)) hg (.inl rfl)); have n2_ := Ω5_3 (hp_); have n3_ := Ω5_3 (blk_grown (g := gb146) (o := .cells #[.slice (some ad149) l0_0.length c0_0, .slice A0_1 l0_1.length c0_1] 56 (0, 0)) (by (with_reducible repeat (first | refine ΩA_3 ?_ _ | refine ΩC_3 ?_ | refine ΩB_3 ?_ _)); exact BK146.out) hg (Kd.R_ne HO_166001.out BK146.out (by decide))); have n4_ := Ω5_3 (blk_grown (g := gb147) (o := .cells #[.slice none 0 0, .slice none 0 0] 56 (0, 0)) (by (with_reducible repeat (first | refine ΩA_3 ?_ _ | refine ΩC_3 ?_ | refine ΩB_3 ?_ _)); exact BK147.out) hg (Kd.R_ne HO_166001.out BK147.out (by decide))); have n5_ := Ω5_3 (blk_grown (g := gb165) (o := .cells #[u166000, .slice (some ⟨go74, 0, none⟩) x166001_5.length co74] 56 (0, 0)) (by (with_reducible repeat (first | refine ΩA_3 ?_ _ | refine ΩC_3 ?_ | refine ΩB_3 ?_ _)); exact BK165.out) hg (Kd.R_ne HO_166001.out BK165.out (by decide))); have n6_ := Ω5_3 (Kd.R_after (v := (.slice (some ⟨go74, 0, none⟩) x166001_5.length co74)) (v1 := (.slice (some ⟨go74, 0, none⟩) x166001_5.length co74)) (ok := (fun k_ => some k_ ≠ (.slice (some ad169) x14_5.length co76 : Value).ownBlock ∧ some k_ ≠ (u166000 : Value).ownBlock ∧ some k_ ≠ (.slice Ao80 t174.length co80 : Value).ownBlock)) (by (with_reducible repeat (first | apply Ω1_3 | apply Ω2_3 | apply Ω3_3)); exact Kd.R_mono HO172.out (fun _ hk => ⟨⟨hk.1.1.1.2, ⟨hk.1.1.2, hk.2⟩⟩, hk.1.2⟩)) hg (.inl rfl)); have n7_ := Ω5_3 (Kd.R_after (v := (.slice (some ⟨go74, 0, none⟩) x166001_5.length co74)) (v1 := (.slice (some ⟨go74, 0, none⟩) x166001_5.length co74)) (ok := (fun k_ => some k_ ≠ (.slice (some ad169) x14_5.length co76 : Value).ownBlock ∧ some k_ ≠ (u166000 : Value).ownBlock ∧ some k_ ≠ (.slice Ao78 t170.length co78 : Value).ownBlock)) (by (with_reducible repeat (first | apply Ω1_3 | apply Ω2_3 | apply Ω3_3)); exact Kd.R_mono HO176.out (fun _ hk => ⟨⟨hk.1.1.1.2, ⟨hk.1.1.2, hk.2⟩⟩, hk.1.2⟩)) hg (.inl rfl)); have n8_ := Ω5_3 ((by rw [hw]; exact Ω9_3 (HB.out) GB74.out : Below w.heap.size w w87)); clear HO_14; clear HO_166000; clear HO_166001; clear BK146; clear BK147; clear BK165; clear HO172; clear HO176; clear HB; have HO_14 := n0_; have HO_166000 := n1_; have HO_166001 := n2_; have BK146 := n3_; have BK147 := n4_; have BK165 := n5_; have HO172 := n6_; have HO176 := n7_; have HB := n8_; clear n0_ n1_ n2_ n3_ n4_ n5_ n6_ n7_ n8_; clear hg hw hp_))
                           go_roundg k5
                           case measure => have := HJ4.out; have := HJ28.out; have := HK3.out; have := HK4.out; have := HK5.out; omega
                           case rel => exact ⟨(x14_5), (wrap64 (x16_5 + 1)), (x166000_5), (y181), (u166000), (.slice (some ⟨go74, 0, none⟩) x166001_5.length co74), (by first | rfl | (simp; done) | (simp [*]; done)), H', ⟨by have := HJ4.out; have := HJ28.out; have := HK3.out; have := HK4.out; have := HK5.out; omega⟩, ⟨by (with_reducible repeat (first | apply Ω1_3 | apply Ω2_3 | apply Ω3_3)); exact Kd.R_mono HO_14.out (fun _ hk => ⟨hk.1.1, hk.2⟩)⟩, ⟨by (with_reducible repeat (first | apply Ω1_3 | apply Ω2_3 | apply Ω3_3)); exact Kd.R_mono HO_166000.out (fun _ hk => ⟨hk.1.1, hk.2⟩)⟩, ⟨by (with_reducible repeat (first | apply Ω1_3 | apply Ω2_3 | apply Ω3_3)); exact Kd.R_mono HO_166001.out (fun _ hk => ⟨hk.1, hk.2.1⟩)⟩, ⟨by (with_reducible repeat (first | refine ΩA_3 ?_ _ | refine ΩC_3 ?_ | refine ΩB_3 ?_ _)); exact BK146.out⟩, ⟨by (with_reducible repeat (first | refine ΩA_3 ?_ _ | refine ΩC_3 ?_ | refine ΩB_3 ?_ _)); exact BK147.out⟩, ⟨by (with_reducible repeat (first | refine ΩA_3 ?_ _ | refine ΩC_3 ?_ | refine ΩB_3 ?_ _)); exact BK165.out⟩, ⟨by repeat (first | (with_reducible first | exact HB.out | apply Ω6_3 | apply Ω7_3 | apply Ω8_3 | refine Ω9_3 ?_ GE146.out | refine Ω9_3 ?_ GE147.out | refine Ω9_3 ?_ GE165.out) | exact HB.out)⟩⟩
                          ·rw [if_neg c73] at H
                           exact absurd H (by simp)
                         ·rw [if_neg c72] at H
                          exact absurd H (by simp)
                        ·rw [if_neg c71] at H
                         have c71b0 : ((wrap64 (x15_4 + x16_5)) == 0) = false := beq_eq_false_iff_ne.mpr c71
                         have c71b1 : ((wrap64 (x15_4 + x16_5)) != 0) = true := bne_iff_ne.mpr c71
                         replace H := Option.bind_eq_some_iff.mp H
                         obtain ⟨t178, A880, H⟩ := H
                         replace H : (if 0 ≤ x13_3 then (if x13_3 < (x166001_5.length : Int) then ((spec_Signed.f (rd x166001_5 x13_3)).bind fun t180 => (if t178 > t180 then (spec_l5Pool.l2 k5 a1 a2 (l0_0.length : Int) x13_3 x14_5 x15_4 (wrap64 (x16_5 + 1)) l0_0 l0_1 x166000_5 (x166001_5.set (x13_3 : Int).toNat t177)) else (spec_l5Pool.l2 k5 a1 a2 (l0_0.length : Int) x13_3 x14_5 x15_4 (wrap64 (x16_5 + 1)) l0_0 l0_1 x166000_5 x166001_5))) else (none)) else (none)) = some (r1, r2) := H
                         have A88 := Ω5_3 A880
                         clear A880
                         by_cases c89 : 0 ≤ x13_3
                         ·rw [if_pos c89] at H
                          have c89b0 : decide (0 ≤ x13_3) = true := decide_eq_true c89
                          clear c89
                          by_cases c90 : x13_3 < (x166001_5.length : Int)
                          ·rw [if_pos c90] at H
                           have c90b0 : decide (x13_3 < (x166001_5.length : Int)) = true := decide_eq_true c90
                           clear c90
                           replace H := Option.bind_eq_some_iff.mp H
                           obtain ⟨t180, A910, H⟩ := H
                           replace H : (if t178 > t180 then (spec_l5Pool.l2 k5 a1 a2 (l0_0.length : Int) x13_3 x14_5 x15_4 (wrap64 (x16_5 + 1)) l0_0 l0_1 x166000_5 (x166001_5.set (x13_3 : Int).toNat t177)) else (spec_l5Pool.l2 k5 a1 a2 (l0_0.length : Int) x13_3 x14_5 x15_4 (wrap64 (x16_5 + 1)) l0_0 l0_1 x166000_5 x166001_5)) = some (r1, r2) := H
                           have A91 := Ω5_3 A910
                           clear A910
                           by_cases c92 : t178 > t180
                           ·rw [if_pos c92] at H
                            have c92b0 : decide (t180 < t178) = true := decide_eq_true c92
                            clear c92
                            obtain ⟨y182, hy182⟩ : ∃ y_ : List Int, y_ = (x166001_5.set (x13_3 : Int).toNat t177) := ⟨_, rfl⟩
                            replace H : (spec_l5Pool.l2 k5 a1 a2 (l0_0.length : Int) x13_3 x14_5 x15_4 (wrap64 (x16_5 + 1)) l0_0 l0_1 x166000_5 y182) = some (r1, r2) := by first | (rw [hy182]; with_reducible exact H) | (have H2_ := (Option.bind_some _ _).symm.trans H; rw [hy182]; with_reducible exact H2_) | (have H2_ := (Option.bind_some _ _).symm.trans H; with_reducible exact H2_) | with_reducible exact H | (rw [hy182]; exact H) | exact H
                            have Ny182 := Ω5_3 hy182
                            clear hy182
                            have H' := Ω5_3 H
                            clear H
                            try go_wp2
                            have n0_ := Ω5_3 (Ω3_3 HO_14.out);have n1_ := Ω5_3 (Ω3_3 HO_166000.out);have n2_ := Ω5_3 (Ω3_3 HO_166001.out);have n3_ := Ω5_3 (ΩC_3 BK146.out);have n4_ := Ω5_3 (ΩC_3 BK147.out);have n5_ := Ω5_3 (ΩC_3 BK165.out);have n6_ := Ω5_3 (Ω8_3 HB.out);clear HO_14 HO_166000 HO_166001 BK146 BK147 BK165 HB;have HO_14 := n0_;have HO_166000 := n1_;have HO_166001 := n2_;have BK146 := n3_;have BK147 := n4_;have BK165 := n5_;have HB := n6_;clear n0_ n1_ n2_ n3_ n4_ n5_ n6_
                            obtain ⟨Ao95, co95, eo95⟩ := Kd.R_slice HO_14.out
                            (first | subst eo95 | (injection eo95 with f1_ f2_ f3_; have f4_ := f1_.symm; have f5_ := f3_.symm; clear f1_ f2_ f3_; subst f4_; subst f5_))
                            have p169 : 0 ≤ ((ji62) : Int) := ΩS_3 (by first | (with_reducible assumption) | assumption)
                            have q169 : (ji62) < (x14_5.length : Int) := ΩS_3 (by first | (with_reducible assumption) | assumption)
                            obtain ⟨ad169, e169, hx169_0⟩ := Kd.at_int (Kd.R_reads' HO_14.out).2.2 (ji62) p169 q169
                            cases e169
                            replace p169 := eq_true p169;replace q169 := eq_true q169
                            have p173 : 0 ≤ ((ji66) : Int) := ΩS_3 (by first | (with_reducible assumption) | assumption)
                            have q173 : (ji66) < (x14_5.length : Int) := ΩS_3 (by first | (with_reducible assumption) | assumption)
                            obtain ⟨ad173, e173, hx173_0⟩ := Kd.at_int (Kd.R_reads' HO_14.out).2.2 (ji66) p173 q173
                            obtain rfl : ad169 = ad173 := (by injection e173)
                            replace p173 := eq_true p173;replace q173 := eq_true q173
                            refine start_ (n := 28) (S := fun w' => w'.cell? ⟨gb146, 0, none⟩ = some (.slice (some ad149) l0_0.length c0_0) ∧ w'.cell? ⟨gb146, 1, none⟩ = some (.slice A0_1 l0_1.length c0_1) ∧ w'.cell? (ad169.add ((ji62)).toNat) = some (.int .i64 (rd x14_5 (ji62))) ∧ w'.cell? (ad169.add ((ji66)).toNat) = some (.int .i64 (rd x14_5 (ji66)))) (ds := []) #[false, false, false, false, false, false, false, false, false, false, false, false, false, false, false, false, false, false, false, false, false, false, false, false, false, false, false, false] (by kernel_rfl) rfl rfl ⟨(blk_cell BK146.out 0).trans rfl, (blk_cell BK146.out 1).trans rfl, hx169_0, hx173_0⟩ (fun hHeld => ?_); refine with_tabW spec_l5Pool.tab19 spec_l5Pool.bits19 (fun HT_ HW_ => ?_)
                            generalize wr.drew = w94 at HO_14 HO_166000 HO_166001 BK146 BK147 BK165 HB hx169_0 hx173_0 hHeld ⊢
                            refine pure_ (i := 1) (N := some 87) (v := ?_) (a' := ?_) #[false, true, false, false, false, false, false, false, false, false, false, false, false, false, false, false, false, false, false, false, false, false, false, false, false, false, false, false] rfl rfl (any_of HT_.out (by kernel_rfl)) (fun _ _ _ h => h) (Or.inl ⟨by rfl, ?_⟩) ?_ ?_
                            rotate_left
                            ·intro w'
                             go_simp
                             with_reducible rfl
                            rotate_left
                            ·simp only [Act.put, List.setIfInBounds_toArray, List.set_cons_zero, List.set_cons_succ, i64_w, i32_w]
                             rfl
                            refine pure_ (i := 2) (N := some 88) (v := ?_) (a' := ?_) #[false, true, true, false, false, false, false, false, false, false, false, false, false, false, false, false, false, false, false, false, false, false, false, false, false, false, false, false] rfl rfl (any_of HT_.out (by kernel_rfl)) (fun _ _ _ h => h) (Or.inl ⟨by rfl, ?_⟩) ?_ ?_
                            rotate_left
                            ·intro w'
                             go_simp
                             with_reducible rfl
                            rotate_left
                            ·simp only [Act.put, List.setIfInBounds_toArray, List.set_cons_zero, List.set_cons_succ, i64_w, i32_w]
                             rfl
                            refine pure_ (i := 3) (N := some 89) (v := ?_) (a' := ?_) #[false, true, true, true, false, false, false, false, false, false, false, false, false, false, false, false, false, false, false, false, false, false, false, false, false, false, false, false] rfl rfl (any_of HT_.out (by kernel_rfl)) (fun _ _ _ h => h) (Or.inl ⟨by rfl, ?_⟩) ?_ ?_
                            rotate_left
                            ·intro w'
                             go_simp
                             with_reducible rfl
                            rotate_left
                            ·simp only [Act.put, List.setIfInBounds_toArray, List.set_cons_zero, List.set_cons_succ, i64_w, i32_w]
                             rfl
                            refine pure_ (i := 4) (N := some 90) (v := ?_) (a' := ?_) #[false, true, true, true, true, false, false, false, false, false, false, false, false, false, false, false, false, false, false, false, false, false, false, false, false, false, false, false] rfl rfl (any_of HT_.out (by kernel_rfl)) (fun _ _ _ h => h) (Or.inl ⟨by rfl, ?_⟩) ?_ ?_
                            rotate_left
                            ·intro w'
                             go_simp
                             with_reducible rfl
                            rotate_left
                            ·simp only [Act.put, List.setIfInBounds_toArray, List.set_cons_zero, List.set_cons_succ, i64_w, i32_w]
                             rfl
                            refine pure_ (i := 5) (N := some 91) (v := ?_) (a' := ?_) #[false, true, true, true, true, true, false, false, false, false, false, false, false, false, false, false, false, false, false, false, false, false, false, false, false, false, false, false] rfl rfl (any_of HT_.out (by kernel_rfl)) (fun _ _ _ h => h) (Or.inl ⟨by rfl, ?_⟩) ?_ ?_
                            rotate_left
                            ·intro w'
                             go_simp
                             with_reducible rfl
                            rotate_left
                            ·simp only [Act.put, List.setIfInBounds_toArray, List.set_cons_zero, List.set_cons_succ, i64_w, i32_w]
                             rfl
                            refine pure_ (i := 6) (N := some 92) (v := ?_) (a' := ?_) #[false, true, true, true, true, true, true, false, false, false, false, false, false, false, false, false, false, false, false, false, false, false, false, false, false, false, false, false] rfl rfl (any_of HT_.out (by kernel_rfl)) (fun _ _ _ h => h) (Or.inl ⟨by rfl, ?_⟩) ?_ ?_
                            rotate_left
                            ·intro w'
                             go_simp
                             with_reducible rfl
                            rotate_left
                            ·simp only [Act.put, List.setIfInBounds_toArray, List.set_cons_zero, List.set_cons_succ, i64_w, i32_w]
                             rfl
                            refine pure_ (i := 7) (N := some 93) (v := ?_) (a' := ?_) #[false, true, true, true, true, true, true, true, false, false, false, false, false, false, false, false, false, false, false, false, false, false, false, false, false, false, false, false] rfl rfl (any_of HT_.out (by kernel_rfl)) (fun _ _ _ h => h) (Or.inl ⟨by rfl, ?_⟩) ?_ ?_
                            rotate_left
                            ·intro w'
                             go_simp
                             with_reducible rfl
                            rotate_left
                            ·simp only [Act.put, List.setIfInBounds_toArray, List.set_cons_zero, List.set_cons_succ, i64_w, i32_w]
                             rfl
                            refine pure_ (i := 9) (N := some 95) (v := ?_) (a' := ?_) #[false, true, true, true, true, true, true, true, false, true, false, false, false, false, false, false, false, false, false, false, false, false, false, false, false, false, false, false] rfl rfl (any_of HT_.out (by kernel_rfl)) (fun _ _ _ h => h) (Or.inl ⟨by rfl, ?_⟩) ?_ ?_
                            rotate_left
                            ·intro w'
                             go_simp
                             with_reducible rfl
                            rotate_left
                            ·simp only [Act.put, List.setIfInBounds_toArray, List.set_cons_zero, List.set_cons_succ, i64_w, i32_w]
                             rfl
                            refine pure_ (i := 11) (N := some 97) (v := ?_) (a' := ?_) #[false, true, true, true, true, true, true, true, false, true, false, true, false, false, false, false, false, false, false, false, false, false, false, false, false, false, false, false] rfl rfl (any_of HT_.out (by kernel_rfl)) (fun _ _ _ h => h) (Or.inl ⟨by rfl, ?_⟩) ?_ ?_
                            rotate_left
                            ·intro w'
                             go_simp
                             with_reducible rfl
                            rotate_left
                            ·simp only [Act.put, List.setIfInBounds_toArray, List.set_cons_zero, List.set_cons_succ, i64_w, i32_w]
                             rfl
                            refine pure_ (i := 14) (N := some 100) (v := ?_) (a' := ?_) #[false, true, true, true, true, true, true, true, false, true, false, true, false, false, true, false, false, false, false, false, false, false, false, false, false, false, false, false] rfl rfl (any_of HT_.out (by kernel_rfl)) (fun _ _ _ h => h) (Or.inl ⟨by rfl, ?_⟩) ?_ ?_
                            rotate_left
                            ·intro w'
                             go_simp
                             with_reducible rfl
                            rotate_left
                            ·simp only [Act.put, List.setIfInBounds_toArray, List.set_cons_zero, List.set_cons_succ, i64_w, i32_w]
                             rfl
                            refine pure_ (i := 15) (N := some 101) (v := ?_) (a' := ?_) #[false, true, true, true, true, true, true, true, false, true, false, true, false, false, true, true, false, false, false, false, false, false, false, false, false, false, false, false] rfl rfl (any_of HT_.out (by kernel_rfl)) (fun _ _ _ h => h) (Or.inl ⟨by rfl, ?_⟩) ?_ ?_
                            rotate_left
                            ·intro w'
                             go_simp
                             with_reducible rfl
                            rotate_left
                            ·simp only [Act.put, List.setIfInBounds_toArray, List.set_cons_zero, List.set_cons_succ, i64_w, i32_w]
                             rfl
                            refine pure_ (i := 16) (N := some 102) (v := ?_) (a' := ?_) #[false, true, true, true, true, true, true, true, false, true, false, true, false, false, true, true, true, false, false, false, false, false, false, false, false, false, false, false] rfl rfl (any_of HT_.out (by kernel_rfl)) (fun _ _ _ h => h) (Or.inl ⟨by rfl, ?_⟩) ?_ ?_
                            rotate_left
                            ·intro w'
                             go_simp
                             with_reducible rfl
                            rotate_left
                            ·simp only [Act.put, List.setIfInBounds_toArray, List.set_cons_zero, List.set_cons_succ, i64_w, i32_w]
                             rfl
                            refine pure_ (i := 17) (N := some 103) (v := ?_) (a' := ?_) #[false, true, true, true, true, true, true, true, false, true, false, true, false, false, true, true, true, true, false, false, false, false, false, false, false, false, false, false] rfl rfl (any_of HT_.out (by kernel_rfl)) (fun _ _ _ h => h) (Or.inl ⟨by rfl, ?_⟩) ?_ ?_
                            rotate_left
                            ·intro w'
                             go_simp
                             with_reducible rfl
                            rotate_left
                            ·simp only [Act.put, List.setIfInBounds_toArray, List.set_cons_zero, List.set_cons_succ, i64_w, i32_w]
                             rfl
                            refine pure_ (i := 18) (N := some 104) (v := ?_) (a' := ?_) #[false, true, true, true, true, true, true, true, false, true, false, true, false, false, true, true, true, true, true, false, false, false, false, false, false, false, false, false] rfl rfl (any_of HT_.out (by kernel_rfl)) (fun _ _ _ h => h) (Or.inl ⟨by rfl, ?_⟩) ?_ ?_
                            rotate_left
                            ·intro w'
                             go_simp
                             with_reducible rfl
                            rotate_left
                            ·simp only [Act.put, List.setIfInBounds_toArray, List.set_cons_zero, List.set_cons_succ, i64_w, i32_w]
                             rfl
                            refine pure_ (i := 19) (N := some 105) (v := ?_) (a' := ?_) #[false, true, true, true, true, true, true, true, false, true, false, true, false, false, true, true, true, true, true, true, false, false, false, false, false, false, false, false] rfl rfl (any_of HT_.out (by kernel_rfl)) (fun _ _ _ h => h) (Or.inl ⟨by rfl, ?_⟩) ?_ ?_
                            rotate_left
                            ·intro w'
                             go_simp
                             with_reducible rfl
                            rotate_left
                            ·simp only [Act.put, List.setIfInBounds_toArray, List.set_cons_zero, List.set_cons_succ, i64_w, i32_w]
                             rfl
                            refine pure_ (i := 21) (N := some 107) (v := ?_) (a' := ?_) #[false, true, true, true, true, true, true, true, false, true, false, true, false, false, true, true, true, true, true, true, false, true, false, false, false, false, false, false] rfl rfl (any_of HT_.out (by kernel_rfl)) (fun _ _ _ h => h) (Or.inl ⟨by rfl, ?_⟩) ?_ ?_
                            rotate_left
                            ·intro w'
                             go_simp
                             with_reducible rfl
                            rotate_left
                            ·simp only [Act.put, List.setIfInBounds_toArray, List.set_cons_zero, List.set_cons_succ, i64_w, i32_w]
                             rfl
                            refine pure_ (i := 23) (N := some 109) (v := ?_) (a' := ?_) #[false, true, true, true, true, true, true, true, false, true, false, true, false, false, true, true, true, true, true, true, false, true, false, true, false, false, false, false] rfl rfl (any_of HT_.out (by kernel_rfl)) (fun _ _ _ h => h) (Or.inl ⟨by rfl, ?_⟩) ?_ ?_
                            rotate_left
                            ·intro w'
                             go_simp
                             with_reducible rfl
                            rotate_left
                            ·simp only [Act.put, List.setIfInBounds_toArray, List.set_cons_zero, List.set_cons_succ, i64_w, i32_w]
                             rfl
                            refine take_ (i := 0) (N := some 86) (v := ?_) (a' := ?_) #[true, true, true, true, true, true, true, true, false, true, false, true, false, false, true, true, true, true, true, true, false, true, false, true, false, false, false, false] rfl rfl (take_ofW HT_.out HW_.out (by kernel_rfl)) (fun _ _ _ h => h) (Or.inl ⟨by rfl, ?_⟩) hHeld ?_ ?_
                            rotate_left
                            ·rintro w' ⟨s0, s1, s2, s3⟩
                             go_simp
                             with_reducible rfl
                            rotate_left
                            ·simp only [Act.put, List.setIfInBounds_toArray, List.set_cons_zero, List.set_cons_succ, i64_w, i32_w]
                             rfl
                            refine take_ (i := 8) (N := some 94) (v := ?_) (a' := ?_) #[true, true, true, true, true, true, true, true, true, true, false, true, false, false, true, true, true, true, true, true, false, true, false, true, false, false, false, false] rfl rfl (take_ofW HT_.out HW_.out (by kernel_rfl)) (fun _ _ _ h => h) (Or.inl ⟨by rfl, ?_⟩) hHeld ?_ ?_
                            rotate_left
                            ·rintro w' ⟨s0, s1, s2, s3⟩
                             go_simp
                             with_reducible rfl
                            rotate_left
                            ·simp only [Act.put, List.setIfInBounds_toArray, List.set_cons_zero, List.set_cons_succ, i64_w, i32_w]
                             rfl
                            refine pure_ (i := 10) (N := some 96) (v := ?_) (a' := ?_) #[true, true, true, true, true, true, true, true, true, true, true, true, false, false, true, true, true, true, true, true, false, true, false, true, false, false, false, false] rfl rfl (any_of HT_.out (by kernel_rfl)) (fun _ _ _ h => h) (Or.inl ⟨by rfl, ?_⟩) ?_ ?_
                            rotate_left
                            ·intro w'
                             go_simp
                             with_reducible rfl
                            rotate_left
                            ·simp only [Act.put, List.setIfInBounds_toArray, List.set_cons_zero, List.set_cons_succ, i64_w, i32_w]
                             rfl
                            refine pure_ (i := 12) (N := some 98) (v := ?_) (a' := ?_) #[true, true, true, true, true, true, true, true, true, true, true, true, true, false, true, true, true, true, true, true, false, true, false, true, false, false, false, false] rfl rfl (any_of HT_.out (by kernel_rfl)) (fun _ _ _ h => h) (Or.inl ⟨by rfl, ?_⟩) ?_ ?_
                            rotate_left
                            ·intro w'
                             go_simp
                             with_reducible rfl
                            rotate_left
                            ·simp only [Act.put, List.setIfInBounds_toArray, List.set_cons_zero, List.set_cons_succ, i64_w, i32_w]
                             rfl
                            refine take_ (i := 20) (N := some 106) (v := ?_) (a' := ?_) #[true, true, true, true, true, true, true, true, true, true, true, true, true, false, true, true, true, true, true, true, true, true, false, true, false, false, false, false] rfl rfl (take_ofW HT_.out HW_.out (by kernel_rfl)) (fun _ _ _ h => h) (Or.inl ⟨by rfl, ?_⟩) hHeld ?_ ?_
                            rotate_left
                            ·rintro w' ⟨s0, s1, s2, s3⟩
                             go_simp
                             with_reducible rfl
                            rotate_left
                            ·simp only [Act.put, List.setIfInBounds_toArray, List.set_cons_zero, List.set_cons_succ, i64_w, i32_w]
                             rfl
                            refine pure_ (i := 22) (N := some 108) (v := ?_) (a' := ?_) #[true, true, true, true, true, true, true, true, true, true, true, true, true, false, true, true, true, true, true, true, true, true, true, true, false, false, false, false] rfl rfl (any_of HT_.out (by kernel_rfl)) (fun _ _ _ h => h) (Or.inl ⟨by rfl, ?_⟩) ?_ ?_
                            rotate_left
                            ·intro w'
                             go_simp
                             with_reducible rfl
                            rotate_left
                            ·simp only [Act.put, List.setIfInBounds_toArray, List.set_cons_zero, List.set_cons_succ, i64_w, i32_w]
                             rfl
                            refine pure_ (i := 24) (N := some 110) (v := ?_) (a' := ?_) #[true, true, true, true, true, true, true, true, true, true, true, true, true, false, true, true, true, true, true, true, true, true, true, true, true, false, false, false] rfl rfl (any_of HT_.out (by kernel_rfl)) (fun _ _ _ h => h) (Or.inl ⟨by rfl, ?_⟩) ?_ ?_
                            rotate_left
                            ·intro w'
                             go_simp
                             with_reducible rfl
                            rotate_left
                            ·simp only [Act.put, List.setIfInBounds_toArray, List.set_cons_zero, List.set_cons_succ, i64_w, i32_w]
                             rfl
                            refine one_ (i := 13) (N := some 99) #[true, true, true, true, true, true, true, true, true, true, true, true, true, true, true, true, true, true, true, true, true, true, true, true, true, false, false, false] rfl rfl (one_of HT_.out (by kernel_rfl)) (by decide) (fun K hK => ?_)
                            refine goes_ Try.func84 (by kernel_rfl) rfl #[.slice (some ad169) x14_5.length co95, .int .i64 ji62, .int .i64 (wrap64 ((wrap64 ((rd x14_5 (ji62)) * a2)) + x15_4))] (by rfl) rfl rfl (by (try simp only [List.map_toArray, List.map_cons, List.map_nil]); first | done | (simp only [hji62]; rfl) | rfl | (simp only [List.length_drop, List.length_take]; rfl)) ?_
                            with_reducible refine (spec_l4With.calls _ _ x14_5 ji62 (wrap64 ((wrap64 ((rd x14_5 (ji62)) * a2)) + x15_4)) t170 _ ?side1 ?side2 A65.out).mono ?_
                            (case side1 => repeat (first | exact (Kd.R_reads' HO_14.out).2.2 | (with_reducible refine Kd.C_alloc ?_ _) | (with_reducible refine Kd.C_drewN ?_ _) | (with_reducible refine Kd.C_drew ?_)))
                            (case side2 => exact (Kd.R_reads' HO_14.out).2.1)
                            rintro e w96 ⟨v171, rfl, ho0, hb⟩
                            have HS2_ := (hb.cell (World.block_lt_of_cell? _ _ (hHeld.2.2.1))).trans (hHeld.2.2.1)
                            have HS3_ := (hb.cell (World.block_lt_of_cell? _ _ (hHeld.2.2.2))).trans (hHeld.2.2.2)
                            refine ⟨_, rfl, ?_⟩
                            have n0_ := Ω5_3 (Kd.R_elder' (by (with_reducible repeat (first | apply Ω1_3 | apply Ω2_3 | apply Ω3_3)); exact HO_14.out) (Kd.R_base ho0) hb);have n1_ := Ω5_3 (Kd.R_elder' (by (with_reducible repeat (first | apply Ω1_3 | apply Ω2_3 | apply Ω3_3)); exact HO_166000.out) (Kd.R_base ho0) hb);have n2_ := Ω5_3 (Kd.R_elder' (by (with_reducible repeat (first | apply Ω1_3 | apply Ω2_3 | apply Ω3_3)); exact HO_166001.out) (Kd.R_base ho0) hb);have n3_ := Ω5_3 (Kd.R_lower (Kd.R_new' (Kd.R_new' (Kd.R_new' ho0 (Kd.R_lt (by (with_reducible repeat (first | apply Ω1_3 | apply Ω2_3 | apply Ω3_3)); exact HO_14.out))) (Kd.R_lt (by (with_reducible repeat (first | apply Ω1_3 | apply Ω2_3 | apply Ω3_3)); exact HO_166000.out))) (Kd.R_lt (by (with_reducible repeat (first | apply Ω1_3 | apply Ω2_3 | apply Ω3_3)); exact HO_166001.out))) (below_size (by repeat (first | (with_reducible first | exact HB.out | apply Ω6_3 | apply Ω7_3 | apply Ω8_3 | refine Ω9_3 ?_ GE146.out | refine Ω9_3 ?_ GE147.out | refine Ω9_3 ?_ GE165.out) | exact HB.out))));have n4_ := Ω5_3 (blk_below (g := gb146) (o := .cells #[.slice (some ad149) l0_0.length c0_0, .slice A0_1 l0_1.length c0_1] 56 (0, 0)) (by (with_reducible repeat (first | refine ΩA_3 ?_ _ | refine ΩC_3 ?_ | refine ΩB_3 ?_ _)); exact BK146.out) hb);have n5_ := Ω5_3 (blk_below (g := gb147) (o := .cells #[.slice none 0 0, .slice none 0 0] 56 (0, 0)) (by (with_reducible repeat (first | refine ΩA_3 ?_ _ | refine ΩC_3 ?_ | refine ΩB_3 ?_ _)); exact BK147.out) hb);have n6_ := Ω5_3 (blk_below (g := gb165) (o := .cells #[u166000, u166001] 56 (0, 0)) (by (with_reducible repeat (first | refine ΩA_3 ?_ _ | refine ΩC_3 ?_ | refine ΩB_3 ?_ _)); exact BK165.out) hb);have n7_ := Ω5_3 (below_step (by repeat (first | (with_reducible first | exact HB.out | apply Ω6_3 | apply Ω7_3 | apply Ω8_3 | refine Ω9_3 ?_ GE146.out | refine Ω9_3 ?_ GE147.out | refine Ω9_3 ?_ GE165.out) | exact HB.out)) hb);clear HO_14 HO_166000 HO_166001 BK146 BK147 BK165 HB;have HO_14 := n0_;have HO_166000 := n1_;have HO_166001 := n2_;have HO172 := n3_;have BK146 := n4_;have BK147 := n5_;have BK165 := n6_;have HB := n7_;clear n0_ n1_ n2_ n3_ n4_ n5_ n6_ n7_
                            (try clear hb)
                            (try clear hb2)
                            (try clear hk)
                            (try clear hi)
                            (try clear ho0)
                            obtain ⟨Ao97, co97, eo97⟩ := Kd.R_slice HO172.out
                            (first | subst eo97 | (injection eo97 with f1_ f2_ f3_; have f4_ := f1_.symm; have f5_ := f3_.symm; clear f1_ f2_ f3_; subst f4_; subst f5_))
                            refine hK.out _ _ ⟨(blk_cell BK146.out 0).trans rfl, (blk_cell BK146.out 1).trans rfl, HS2_, HS3_⟩ (fun hHeld => ?_)
                            clear hK K
                            refine norm_ (a' := ?_) ?_ ?_
                            rotate_left
                            ·show Act.put _ (some 99) _ = _
                             simp only [Act.put, List.setIfInBounds_toArray, List.set_cons_zero, List.set_cons_succ, i64_w, i32_w]
                             rfl
                            refine one_ (i := 25) (N := some 111) #[true, true, true, true, true, true, true, true, true, true, true, true, true, true, true, true, true, true, true, true, true, true, true, true, true, true, false, false] rfl rfl (one_of HT_.out (by kernel_rfl)) (by decide) (fun K hK => ?_)
                            refine goes_ Try.func84 (by kernel_rfl) rfl #[.slice Ao97 t170.length co97, .int .i64 ji66, .int .i64 (wrap64 ((wrap64 ((rd x14_5 (ji66)) * a2)) + x16_5))] (by rfl) rfl rfl (by (try simp only [List.map_toArray, List.map_cons, List.map_nil]); first | done | (simp only [hji66]; rfl) | rfl | (simp only [List.length_drop, List.length_take]; rfl)) ?_
                            with_reducible refine (spec_l4With.calls _ _ t170 ji66 (wrap64 ((wrap64 ((rd x14_5 (ji66)) * a2)) + x16_5)) t174 _ ?side1 ?side2 A69.out).mono ?_
                            (case side1 => repeat (first | exact (Kd.R_reads' HO172.out).2.2 | (with_reducible refine Kd.C_alloc ?_ _) | (with_reducible refine Kd.C_drewN ?_ _) | (with_reducible refine Kd.C_drew ?_)))
                            (case side2 => exact (Kd.R_reads' HO172.out).2.1)
                            rintro e w98 ⟨v175, rfl, ho0, hb⟩
                            have HS2_ := (hb.cell (World.block_lt_of_cell? _ _ (hHeld.2.2.1))).trans (hHeld.2.2.1)
                            have HS3_ := (hb.cell (World.block_lt_of_cell? _ _ (hHeld.2.2.2))).trans (hHeld.2.2.2)
                            refine ⟨_, rfl, ?_⟩
                            have n0_ := Ω5_3 (Kd.R_elder' (by (with_reducible repeat (first | apply Ω1_3 | apply Ω2_3 | apply Ω3_3)); exact HO_14.out) (Kd.R_base ho0) hb);have n1_ := Ω5_3 (Kd.R_elder' (by (with_reducible repeat (first | apply Ω1_3 | apply Ω2_3 | apply Ω3_3)); exact HO_166000.out) (Kd.R_base ho0) hb);have n2_ := Ω5_3 (Kd.R_elder' (by (with_reducible repeat (first | apply Ω1_3 | apply Ω2_3 | apply Ω3_3)); exact HO_166001.out) (Kd.R_base ho0) hb);have n3_ := Ω5_3 (Kd.R_elder' (by (with_reducible repeat (first | apply Ω1_3 | apply Ω2_3 | apply Ω3_3)); exact HO172.out) (Kd.R_base ho0) hb);have n4_ := Ω5_3 (Kd.R_lower (Kd.R_new' (Kd.R_new' (Kd.R_new' (Kd.R_new' ho0 (Kd.R_lt (by (with_reducible repeat (first | apply Ω1_3 | apply Ω2_3 | apply Ω3_3)); exact HO_14.out))) (Kd.R_lt (by (with_reducible repeat (first | apply Ω1_3 | apply Ω2_3 | apply Ω3_3)); exact HO_166000.out))) (Kd.R_lt (by (with_reducible repeat (first | apply Ω1_3 | apply Ω2_3 | apply Ω3_3)); exact HO_166001.out))) (Kd.R_lt (by (with_reducible repeat (first | apply Ω1_3 | apply Ω2_3 | apply Ω3_3)); exact HO172.out))) (below_size (by repeat (first | (with_reducible first | exact HB.out | apply Ω6_3 | apply Ω7_3 | apply Ω8_3 | refine Ω9_3 ?_ GE146.out | refine Ω9_3 ?_ GE147.out | refine Ω9_3 ?_ GE165.out) | exact HB.out))));have n5_ := Ω5_3 (blk_below (g := gb146) (o := .cells #[.slice (some ad149) l0_0.length c0_0, .slice A0_1 l0_1.length c0_1] 56 (0, 0)) (by (with_reducible repeat (first | refine ΩA_3 ?_ _ | refine ΩC_3 ?_ | refine ΩB_3 ?_ _)); exact BK146.out) hb);have n6_ := Ω5_3 (blk_below (g := gb147) (o := .cells #[.slice none 0 0, .slice none 0 0] 56 (0, 0)) (by (with_reducible repeat (first | refine ΩA_3 ?_ _ | refine ΩC_3 ?_ | refine ΩB_3 ?_ _)); exact BK147.out) hb);have n7_ := Ω5_3 (blk_below (g := gb165) (o := .cells #[u166000, u166001] 56 (0, 0)) (by (with_reducible repeat (first | refine ΩA_3 ?_ _ | refine ΩC_3 ?_ | refine ΩB_3 ?_ _)); exact BK165.out) hb);have n8_ := Ω5_3 (below_step (by repeat (first | (with_reducible first | exact HB.out | apply Ω6_3 | apply Ω7_3 | apply Ω8_3 | refine Ω9_3 ?_ GE146.out | refine Ω9_3 ?_ GE147.out | refine Ω9_3 ?_ GE165.out) | exact HB.out)) hb);clear HO_14 HO_166000 HO_166001 HO172 BK146 BK147 BK165 HB;have HO_14 := n0_;have HO_166000 := n1_;have HO_166001 := n2_;have HO172 := n3_;have HO176 := n4_;have BK146 := n5_;have BK147 := n6_;have BK165 := n7_;have HB := n8_;clear n0_ n1_ n2_ n3_ n4_ n5_ n6_ n7_ n8_
                            (try clear hb)
                            (try clear hb2)
                            (try clear hk)
                            (try clear hi)
                            (try clear ho0)
                            obtain ⟨Ao99, co99, eo99⟩ := Kd.R_slice HO176.out
                            (first | subst eo99 | (injection eo99 with f1_ f2_ f3_; have f4_ := f1_.symm; have f5_ := f3_.symm; clear f1_ f2_ f3_; subst f4_; subst f5_))
                            refine hK.out _ _ ⟨(blk_cell BK146.out 0).trans rfl, (blk_cell BK146.out 1).trans rfl, HS2_, HS3_⟩ (fun hHeld => ?_)
                            clear hK K
                            refine norm_ (a' := ?_) ?_ ?_
                            rotate_left
                            ·show Act.put _ (some 111) _ = _
                             simp only [Act.put, List.setIfInBounds_toArray, List.set_cons_zero, List.set_cons_succ, i64_w, i32_w]
                             rfl
                            refine one_ (i := 26) (N := some 112) #[true, true, true, true, true, true, true, true, true, true, true, true, true, true, true, true, true, true, true, true, true, true, true, true, true, true, true, false] rfl rfl (one_of HT_.out (by kernel_rfl)) (by decide) (fun K hK => ?_)
                            refine goes_ Try.func86 (by kernel_rfl) rfl #[.agg #[.slice (some ad149) l0_0.length c0_0, .slice A0_1 l0_1.length c0_1], .slice Ao99 t174.length co99] (by rfl) rfl rfl (by (try simp only [List.map_toArray, List.map_cons, List.map_nil]); first | done | rfl | (simp only [List.length_drop, List.length_take]; rfl)) ?_
                            with_reducible refine (spec_l4Get.calls k5 _ _ l0_0 _ _ l0_1 _ _ t174 t177 _ ?side1 ?side2 ?side3 ?side4 ?side5 ?side6 A70.out).mono ?_
                            (case side1 => repeat (first | exact (Kd.C_below HR0_0.out HB.out) | (with_reducible refine Kd.C_alloc ?_ _) | (with_reducible refine Kd.C_drewN ?_ _) | (with_reducible refine Kd.C_drew ?_)))
                            (case side2 => exact HC0_0.out)
                            (case side3 => repeat (first | exact (Kd.C_below HR0_1.out HB.out) | (with_reducible refine Kd.C_alloc ?_ _) | (with_reducible refine Kd.C_drewN ?_ _) | (with_reducible refine Kd.C_drew ?_)))
                            (case side4 => exact HC0_1.out)
                            (case side5 => repeat (first | exact (Kd.R_reads' HO176.out).2.2 | (with_reducible refine Kd.C_alloc ?_ _) | (with_reducible refine Kd.C_drewN ?_ _) | (with_reducible refine Kd.C_drew ?_)))
                            (case side6 => exact (Kd.R_reads' HO176.out).2.1)
                            rintro e w100 ⟨rfl, hb⟩
                            have HS2_ := (hb.cell (World.block_lt_of_cell? _ _ (hHeld.2.2.1))).trans (hHeld.2.2.1)
                            have HS3_ := (hb.cell (World.block_lt_of_cell? _ _ (hHeld.2.2.2))).trans (hHeld.2.2.2)
                            refine ⟨_, rfl, ?_⟩
                            have n0_ := Ω5_3 (Kd.R_below (by (with_reducible repeat (first | apply Ω1_3 | apply Ω2_3 | apply Ω3_3)); exact HO_14.out) hb);have n1_ := Ω5_3 (Kd.R_below (by (with_reducible repeat (first | apply Ω1_3 | apply Ω2_3 | apply Ω3_3)); exact HO_166000.out) hb);have n2_ := Ω5_3 (Kd.R_below (by (with_reducible repeat (first | apply Ω1_3 | apply Ω2_3 | apply Ω3_3)); exact HO_166001.out) hb);have n3_ := Ω5_3 (Kd.R_below (by (with_reducible repeat (first | apply Ω1_3 | apply Ω2_3 | apply Ω3_3)); exact HO172.out) hb);have n4_ := Ω5_3 (Kd.R_below (by (with_reducible repeat (first | apply Ω1_3 | apply Ω2_3 | apply Ω3_3)); exact HO176.out) hb);have n5_ := Ω5_3 (blk_below (g := gb146) (o := .cells #[.slice (some ad149) l0_0.length c0_0, .slice A0_1 l0_1.length c0_1] 56 (0, 0)) (by (with_reducible repeat (first | refine ΩA_3 ?_ _ | refine ΩC_3 ?_ | refine ΩB_3 ?_ _)); exact BK146.out) hb);have n6_ := Ω5_3 (blk_below (g := gb147) (o := .cells #[.slice none 0 0, .slice none 0 0] 56 (0, 0)) (by (with_reducible repeat (first | refine ΩA_3 ?_ _ | refine ΩC_3 ?_ | refine ΩB_3 ?_ _)); exact BK147.out) hb);have n7_ := Ω5_3 (blk_below (g := gb165) (o := .cells #[u166000, u166001] 56 (0, 0)) (by (with_reducible repeat (first | refine ΩA_3 ?_ _ | refine ΩC_3 ?_ | refine ΩB_3 ?_ _)); exact BK165.out) hb);have n8_ := Ω5_3 (below_step (by repeat (first | (with_reducible first | exact HB.out | apply Ω6_3 | apply Ω7_3 | apply Ω8_3 | refine Ω9_3 ?_ GE146.out | refine Ω9_3 ?_ GE147.out | refine Ω9_3 ?_ GE165.out) | exact HB.out)) hb);clear HO_14 HO_166000 HO_166001 HO172 HO176 BK146 BK147 BK165 HB;have HO_14 := n0_;have HO_166000 := n1_;have HO_166001 := n2_;have HO172 := n3_;have HO176 := n4_;have BK146 := n5_;have BK147 := n6_;have BK165 := n7_;have HB := n8_;clear n0_ n1_ n2_ n3_ n4_ n5_ n6_ n7_ n8_
                            (try clear hb)
                            (try clear hb2)
                            (try clear hk)
                            (try clear hi)
                            refine hK.out _ _ ⟨(blk_cell BK146.out 0).trans rfl, (blk_cell BK146.out 1).trans rfl, HS2_, HS3_⟩ (fun hHeld => ?_)
                            clear hK K
                            refine norm_ (a' := ?_) ?_ ?_
                            rotate_left
                            ·show Act.put _ (some 112) _ = _
                             simp only [Act.put, List.setIfInBounds_toArray, List.set_cons_zero, List.set_cons_succ, i64_w, i32_w]
                             rfl
                            refine pure_ (i := 27) (N := some 17) (v := ?_) (a' := ?_) #[true, true, true, true, true, true, true, true, true, true, true, true, true, true, true, true, true, true, true, true, true, true, true, true, true, true, true, true] rfl rfl (any_of HT_.out (by kernel_rfl)) (fun _ _ _ h => h) (Or.inl ⟨by rfl, ?_⟩) ?_ ?_
                            rotate_left
                            ·intro w'
                             go_simp
                             with_reducible rfl
                            rotate_left
                            ·simp only [Act.put, List.setIfInBounds_toArray, List.set_cons_zero, List.set_cons_succ, i64_w, i32_w]
                             rfl
                            refine done_ (done_of HT_.out (by kernel_rfl)) ?_
                            try go_wp2
                            have n0_ := Ω5_3 (Ω3_3 HO_14.out);have n1_ := Ω5_3 (Ω3_3 HO_166000.out);have n2_ := Ω5_3 (Ω3_3 HO_166001.out);have n3_ := Ω5_3 (Ω3_3 HO172.out);have n4_ := Ω5_3 (Ω3_3 HO176.out);have n5_ := Ω5_3 (ΩC_3 BK146.out);have n6_ := Ω5_3 (ΩC_3 BK147.out);have n7_ := Ω5_3 (ΩC_3 BK165.out);have n8_ := Ω5_3 (Ω8_3 HB.out);clear HO_14 HO_166000 HO_166001 HO172 HO176 BK146 BK147 BK165 HB;have HO_14 := n0_;have HO_166000 := n1_;have HO_166001 := n2_;have HO172 := n3_;have HO176 := n4_;have BK146 := n5_;have BK147 := n6_;have BK165 := n7_;have HB := n8_;clear n0_ n1_ n2_ n3_ n4_ n5_ n6_ n7_ n8_
                            obtain ⟨Ao102, co102, eo102⟩ := Kd.R_slice HO_166001.out
                            (first | subst eo102 | (injection eo102 with f1_ f2_ f3_; have f4_ := f1_.symm; have f5_ := f3_.symm; clear f1_ f2_ f3_; subst f4_; subst f5_))
                            have p179 : 0 ≤ (x13_3 : Int) := ΩS_3 (by first | (with_reducible assumption) | assumption)
                            have q179 : x13_3 < (x166001_5.length : Int) := ΩS_3 (by first | (with_reducible assumption) | assumption)
                            obtain ⟨ad179, e179, hx179_0⟩ := Kd.at_int (Kd.R_reads' HO_166001.out).2.2 x13_3 p179 q179
                            cases e179
                            replace p179 := eq_true p179;replace q179 := eq_true q179
                            refine start_ (n := 15) (S := fun w' => w'.cell? ⟨gb165, 0, none⟩ = some (u166000) ∧ w'.cell? ⟨gb165, 1, none⟩ = some (.slice (some ad179) x166001_5.length co102) ∧ w'.cell? (ad179.add (x13_3).toNat) = some (.int .i64 (rd x166001_5 x13_3))) (ds := []) #[false, false, false, false, false, false, false, false, false, false, false, false, false, false, false] (by kernel_rfl) rfl rfl ⟨(blk_cell BK165.out 0).trans rfl, (blk_cell BK165.out 1).trans rfl, hx179_0⟩ (fun hHeld => ?_); refine with_tabW spec_l5Pool.tab22 spec_l5Pool.bits22 (fun HT_ HW_ => ?_)
                            generalize w100.drew = w101 at HO_14 HO_166000 HO_166001 HO172 HO176 BK146 BK147 BK165 HB hx179_0 hHeld ⊢
                            refine pure_ (i := 0) (N := some 126) (v := ?_) (a' := ?_) #[true, false, false, false, false, false, false, false, false, false, false, false, false, false, false] rfl rfl (any_of HT_.out (by kernel_rfl)) (fun _ _ _ h => h) (Or.inl ⟨by rfl, ?_⟩) ?_ ?_
                            rotate_left
                            ·intro w'
                             go_simp
                             with_reducible rfl
                            rotate_left
                            ·simp only [Act.put, List.setIfInBounds_toArray, List.set_cons_zero, List.set_cons_succ, i64_w, i32_w]
                             rfl
                            refine pure_ (i := 1) (N := some 127) (v := ?_) (a' := ?_) #[true, true, false, false, false, false, false, false, false, false, false, false, false, false, false] rfl rfl (any_of HT_.out (by kernel_rfl)) (fun _ _ _ h => h) (Or.inl ⟨by rfl, ?_⟩) ?_ ?_
                            rotate_left
                            ·intro w'
                             go_simp
                             with_reducible rfl
                            rotate_left
                            ·simp only [Act.put, List.setIfInBounds_toArray, List.set_cons_zero, List.set_cons_succ, i64_w, i32_w]
                             rfl
                            refine pure_ (i := 2) (N := some 128) (v := ?_) (a' := ?_) #[true, true, true, false, false, false, false, false, false, false, false, false, false, false, false] rfl rfl (any_of HT_.out (by kernel_rfl)) (fun _ _ _ h => h) (Or.inl ⟨by rfl, ?_⟩) ?_ ?_
                            rotate_left
                            ·intro w'
                             go_simp
                             with_reducible rfl
                            rotate_left
                            ·simp only [Act.put, List.setIfInBounds_toArray, List.set_cons_zero, List.set_cons_succ, i64_w, i32_w]
                             rfl
                            refine pure_ (i := 3) (N := some 129) (v := ?_) (a' := ?_) #[true, true, true, true, false, false, false, false, false, false, false, false, false, false, false] rfl rfl (any_of HT_.out (by kernel_rfl)) (fun _ _ _ h => h) (Or.inl ⟨by rfl, ?_⟩) ?_ ?_
                            rotate_left
                            ·intro w'
                             go_simp
                             with_reducible rfl
                            rotate_left
                            ·simp only [Act.put, List.setIfInBounds_toArray, List.set_cons_zero, List.set_cons_succ, i64_w, i32_w]
                             rfl
                            refine pure_ (i := 4) (N := some 130) (v := ?_) (a' := ?_) #[true, true, true, true, true, false, false, false, false, false, false, false, false, false, false] rfl rfl (any_of HT_.out (by kernel_rfl)) (fun _ _ _ h => h) (Or.inl ⟨by rfl, ?_⟩) ?_ ?_
                            rotate_left
                            ·intro w'
                             go_simp
                             with_reducible rfl
                            rotate_left
                            ·simp only [Act.put, List.setIfInBounds_toArray, List.set_cons_zero, List.set_cons_succ, i64_w, i32_w]
                             rfl
                            refine pure_ (i := 5) (N := some 131) (v := ?_) (a' := ?_) #[true, true, true, true, true, true, false, false, false, false, false, false, false, false, false] rfl rfl (any_of HT_.out (by kernel_rfl)) (fun _ _ _ h => h) (Or.inl ⟨by rfl, ?_⟩) ?_ ?_
                            rotate_left
                            ·intro w'
                             go_simp
                             with_reducible rfl
                            rotate_left
                            ·simp only [Act.put, List.setIfInBounds_toArray, List.set_cons_zero, List.set_cons_succ, i64_w, i32_w]
                             rfl
                            refine pure_ (i := 7) (N := some 133) (v := ?_) (a' := ?_) #[true, true, true, true, true, true, false, true, false, false, false, false, false, false, false] rfl rfl (any_of HT_.out (by kernel_rfl)) (fun _ _ _ h => h) (Or.inl ⟨by rfl, ?_⟩) ?_ ?_
                            rotate_left
                            ·intro w'
                             go_simp
                             with_reducible rfl
                            rotate_left
                            ·simp only [Act.put, List.setIfInBounds_toArray, List.set_cons_zero, List.set_cons_succ, i64_w, i32_w]
                             rfl
                            refine pure_ (i := 9) (N := some 135) (v := ?_) (a' := ?_) #[true, true, true, true, true, true, false, true, false, true, false, false, false, false, false] rfl rfl (any_of HT_.out (by kernel_rfl)) (fun _ _ _ h => h) (Or.inl ⟨by rfl, ?_⟩) ?_ ?_
                            rotate_left
                            ·intro w'
                             go_simp
                             with_reducible rfl
                            rotate_left
                            ·simp only [Act.put, List.setIfInBounds_toArray, List.set_cons_zero, List.set_cons_succ, i64_w, i32_w]
                             rfl
                            refine take_ (i := 8) (N := some 134) (v := ?_) (a' := ?_) #[true, true, true, true, true, true, false, true, true, true, false, false, false, false, false] rfl rfl (take_ofW HT_.out HW_.out (by kernel_rfl)) (fun _ _ _ h => h) (Or.inl ⟨by rfl, ?_⟩) hHeld ?_ ?_
                            rotate_left
                            ·rintro w' ⟨s0, s1, s2⟩
                             go_simp
                             with_reducible rfl
                            rotate_left
                            ·simp only [Act.put, List.setIfInBounds_toArray, List.set_cons_zero, List.set_cons_succ, i64_w, i32_w]
                             rfl
                            refine pure_ (i := 10) (N := some 136) (v := ?_) (a' := ?_) #[true, true, true, true, true, true, false, true, true, true, true, false, false, false, false] rfl rfl (any_of HT_.out (by kernel_rfl)) (fun _ _ _ h => h) (Or.inl ⟨by rfl, ?_⟩) ?_ ?_
                            rotate_left
                            ·intro w'
                             go_simp
                             with_reducible rfl
                            rotate_left
                            ·simp only [Act.put, List.setIfInBounds_toArray, List.set_cons_zero, List.set_cons_succ, i64_w, i32_w]
                             rfl
                            refine take_ (i := 11) (N := some 137) (v := ?_) (a' := ?_) #[true, true, true, true, true, true, false, true, true, true, true, true, false, false, false] rfl rfl (take_ofW HT_.out HW_.out (by kernel_rfl)) (fun _ _ _ h => h) (Or.inl ⟨by rfl, ?_⟩) hHeld ?_ ?_
                            rotate_left
                            ·rintro w' ⟨s0, s1, s2⟩
                             go_simp
                             with_reducible rfl
                            rotate_left
                            ·simp only [Act.put, List.setIfInBounds_toArray, List.set_cons_zero, List.set_cons_succ, i64_w, i32_w]
                             rfl
                            refine one_ (i := 6) (N := some 132) #[true, true, true, true, true, true, true, true, true, true, true, true, false, false, false] rfl rfl (one_of HT_.out (by kernel_rfl)) (by decide) (fun K hK => ?_)
                            refine goes_ Try.func88 (by kernel_rfl) rfl #[.int .i64 t177] (by rfl) rfl rfl (by (try simp only [List.map_toArray, List.map_cons, List.map_nil]); first | done | rfl | (simp only [List.length_drop, List.length_take]; rfl)) ?_
                            with_reducible refine (spec_Signed.calls t177 t178 _ A88.out).mono ?_
                            rintro e w' ⟨rfl, ⟨nd1, rfl⟩⟩
                            refine ⟨_, rfl, ?_⟩
                            refine hK.out _ _ ⟨(blk_cell BK165.out 0).trans rfl, (blk_cell BK165.out 1).trans rfl, hHeld.2.2⟩ (fun hHeld => ?_)
                            clear hK K
                            refine norm_ (a' := ?_) ?_ ?_
                            rotate_left
                            ·show Act.put _ (some 132) _ = _
                             simp only [Act.put, List.setIfInBounds_toArray, List.set_cons_zero, List.set_cons_succ, i64_w, i32_w]
                             rfl
                            refine one_ (i := 12) (N := some 138) #[true, true, true, true, true, true, true, true, true, true, true, true, true, false, false] rfl rfl (one_of HT_.out (by kernel_rfl)) (by decide) (fun K hK => ?_)
                            refine goes_ Try.func88 (by kernel_rfl) rfl #[.int .i64 (rd x166001_5 x13_3)] (by rfl) rfl rfl (by (try simp only [List.map_toArray, List.map_cons, List.map_nil]); first | done | rfl | (simp only [List.length_drop, List.length_take]; rfl)) ?_
                            with_reducible refine (spec_Signed.calls (rd x166001_5 x13_3) t180 _ A91.out).mono ?_
                            rintro e w' ⟨rfl, ⟨nd2, rfl⟩⟩
                            refine ⟨_, rfl, ?_⟩
                            refine hK.out _ _ ⟨(blk_cell BK165.out 0).trans rfl, (blk_cell BK165.out 1).trans rfl, hHeld.2.2⟩ (fun hHeld => ?_)
                            clear hK K
                            refine norm_ (a' := ?_) ?_ ?_
                            rotate_left
                            ·show Act.put _ (some 138) _ = _
                             simp only [Act.put, List.setIfInBounds_toArray, List.set_cons_zero, List.set_cons_succ, i64_w, i32_w]
                             rfl
                            refine pure_ (i := 13) (N := some 139) (v := ?_) (a' := ?_) #[true, true, true, true, true, true, true, true, true, true, true, true, true, true, false] rfl rfl (any_of HT_.out (by kernel_rfl)) (fun _ _ _ h => h) (Or.inl ⟨by rfl, ?_⟩) ?_ ?_
                            rotate_left
                            ·intro w'
                             go_simp
                             with_reducible rfl
                            rotate_left
                            ·simp only [Act.put, List.setIfInBounds_toArray, List.set_cons_zero, List.set_cons_succ, i64_w, i32_w]
                             rfl
                            refine pure_ (i := 14) (N := some 140) (v := ?_) (a' := ?_) #[true, true, true, true, true, true, true, true, true, true, true, true, true, true, true] rfl rfl (any_of HT_.out (by kernel_rfl)) (fun _ _ _ h => h) (Or.inl ⟨by rfl, ?_⟩) ?_ ?_
                            rotate_left
                            ·intro w'
                             go_simp
                             with_reducible rfl
                            rotate_left
                            ·simp only [Act.put, List.setIfInBounds_toArray, List.set_cons_zero, List.set_cons_succ, i64_w, i32_w]
                             rfl
                            refine done_ (done_of HT_.out (by kernel_rfl)) ?_
                            have n0_ := Ω5_3 (Ω2_3 (Ω2_3 HO_14.out nd1) nd2);have n1_ := Ω5_3 (Ω2_3 (Ω2_3 HO_166000.out nd1) nd2);have n2_ := Ω5_3 (Ω2_3 (Ω2_3 HO_166001.out nd1) nd2);have n3_ := Ω5_3 (Ω2_3 (Ω2_3 HO172.out nd1) nd2);have n4_ := Ω5_3 (Ω2_3 (Ω2_3 HO176.out nd1) nd2);have n5_ := Ω5_3 (ΩA_3 (ΩA_3 BK146.out nd1) nd2);have n6_ := Ω5_3 (ΩA_3 (ΩA_3 BK147.out nd1) nd2);have n7_ := Ω5_3 (ΩA_3 (ΩA_3 BK165.out nd1) nd2);have n8_ := Ω5_3 (Ω7_3 (Ω7_3 HB.out nd1) nd2);clear HO_14 HO_166000 HO_166001 HO172 HO176 BK146 BK147 BK165 HB;have HO_14 := n0_;have HO_166000 := n1_;have HO_166001 := n2_;have HO172 := n3_;have HO176 := n4_;have BK146 := n5_;have BK147 := n6_;have BK165 := n7_;have HB := n8_;clear n0_ n1_ n2_ n3_ n4_ n5_ n6_ n7_ n8_
                            generalize (w101.drewN nd1).drewN nd2 = w101 at HO_14 HO_166000 HO_166001 HO172 HO176 BK146 BK147 BK165 HB hHeld ⊢
                            have hnb103 := NB165_146.out;have hnc103 := NB146_165.out;have hnb104 := NB165_147.out;have hnc104 := NB147_165.out;have hcz105_0 : w101.cell? ⟨gb165, 0, none⟩ = some (u166000) := (blk_cell BK165.out 0).trans rfl;have hcz105_1 : w101.cell? ⟨gb165, 1, none⟩ = some (.slice (some ad179) x166001_5.length co102) := (blk_cell BK165.out 1).trans rfl;have hfz105_0 := blk_frozen BK165.out 0;have hfz105_1 := blk_frozen BK165.out 1
                            have p93 : 0 ≤ (x13_3 : Int) := ΩS_3 (by first | (with_reducible assumption) | assumption)
                            have q93 : (x13_3 : Int) < ((x166001_5.length : Int) : Int) := ΩS_3 (by first | (with_reducible assumption) | assumption)
                            obtain ⟨go93, co93, eo93, gb93, gl93, cl93, HG93⟩ := Kd.R_form HO_166001.out (by omega)
                            (first | cases eo93 | (injection eo93 with ea_ en_ ec_; (first | subst ea_ | (injection ea_ with ea_; subst ea_)); subst ec_; clear en_))
                            have GB93 := Ω5_3 gb93
                            have GG93 := Ω5_3 HG93
                            clear gb93 gl93 HG93
                            (first | simp only [add_plain] at hx179_0 | skip)
                            obtain ⟨hx93_0, hf93_0⟩ := Kd.R_celln 0 HO_166001.out (x13_3 : Int) p93 q93
                            replace p93 := eq_true p93;replace q93 := eq_true q93;have n_ := Ω5_3 (Kd.R_mono (ok' := (fun k_ => some k_ ≠ (.slice (some ad169) x14_5.length co95 : Value).ownBlock ∧ some k_ ≠ (u166000 : Value).ownBlock ∧ some k_ ≠ (.slice Ao97 t170.length co97 : Value).ownBlock ∧ some k_ ≠ (.slice Ao99 t174.length co99 : Value).ownBlock)) HO_166001.out (fun k_ hk => ⟨hk.1.1.1, ⟨hk.1.1.2, ⟨hk.1.2, hk.2⟩⟩⟩));clear HO_166001;have HO_166001 := n_;clear n_
                            obtain ⟨hy106_, hz106_⟩ := Kd.R_celln 0 HO_166001.out (x13_3 : Int) (ΩS_3 (by first | (with_reducible assumption) | assumption)) (ΩS_3 (by first | (with_reducible assumption) | assumption))
                            have HP106 := Kd.R_putg HO_166001.out (x13_3 : Int) t177
                            try go_wp2_with (first | ((with_reducible refine gate_store (t := 3) (p := 145) rfl ?_); refine store_event (t := 3) (p := 145) (v := ?vo_w107) (w1 := (w101.setCell ⟨go93, (x13_3 : Int).toNat, none⟩ (.int .i64 t177))) ?hg ?ho ?hn ?hr ?_; (case ho => rfl); (case hg => rfl); (case hn => rfl); (case hr => first | (go_simp; done) | (go_simp; rfl)); intro w107 hw; have hg : w101.grownBy w107 (some go93) := (by rw [hw]; exact HP106.2); have hp_ : Kd.R (Kd.int .i64) 3 w107 w.heap.size (fun k_ => some k_ ≠ (.slice (some ad169) x14_5.length co95 : Value).ownBlock ∧ some k_ ≠ (u166000 : Value).ownBlock ∧ some k_ ≠ (.slice Ao97 t170.length co97 : Value).ownBlock ∧ some k_ ≠ (.slice Ao99 t174.length co99 : Value).ownBlock) (.slice (some ⟨go93, 0, none⟩) x166001_5.length co102) y182 := (by rw [hw, Ny182.out]; exact HP106.1); clear HP106; have n0_ := Ω5_3 (Kd.R_after (v := (.slice (some ⟨go93, 0, none⟩) x166001_5.length co102)) (v1 := (.slice (some ⟨go93, 0, none⟩) x166001_5.length co102)) (ok := (fun k_ => some k_ ≠ (u166000 : Value).ownBlock ∧ some k_ ≠ (.slice Ao97 t170.length co97 : Value).ownBlock ∧ some k_ ≠ (.slice Ao99 t174.length co99 : Value).ownBlock)) (by (with_reducible repeat (first | apply Ω1_3 | apply Ω2_3 | apply Ω3_3)); exact Kd.R_mono HO_14.out (fun _ hk => ⟨⟨hk.1.1.1, ⟨hk.1.2, hk.2⟩⟩, hk.1.1.2⟩)) hg (.inl rfl)); have n1_ := Ω5_3 (Kd.R_after (v := (.slice (some ⟨go93, 0, none⟩) x166001_5.length co102)) (v1 := (.slice (some ⟨go93, 0, none⟩) x166001_5.length co102)) (ok := (fun k_ => some k_ ≠ (.slice (some ad169) x14_5.length co95 : Value).ownBlock ∧ some k_ ≠ (.slice Ao97 t170.length co97 : Value).ownBlock ∧ some k_ ≠ (.slice Ao99 t174.length co99 : Value).ownBlock)) (by (with_reducible repeat (first | apply Ω1_3 | apply Ω2_3 | apply Ω3_3)); exact Kd.R_mono HO_166000.out (fun _ hk => ⟨⟨hk.1.1.1, ⟨hk.1.2, hk.2⟩⟩, hk.1.1.2⟩)) hg (.inl rfl)); have n2_ := Ω5_3 (hp_); have n3_ := Ω5_3 (blk_grown (g := gb146) (o := .cells #[.slice (some ad149) l0_0.length c0_0, .slice A0_1 l0_1.length c0_1] 56 (0, 0)) (by (with_reducible repeat (first | refine ΩA_3 ?_ _ | refine ΩC_3 ?_ | refine ΩB_3 ?_ _)); exact BK146.out) hg (Kd.R_ne HO_166001.out BK146.out (by decide))); have n4_ := Ω5_3 (blk_grown (g := gb147) (o := .cells #[.slice none 0 0, .slice none 0 0] 56 (0, 0)) (by (with_reducible repeat (first | refine ΩA_3 ?_ _ | refine ΩC_3 ?_ | refine ΩB_3 ?_ _)); exact BK147.out) hg (Kd.R_ne HO_166001.out BK147.out (by decide))); have n5_ := Ω5_3 (blk_grown (g := gb165) (o := .cells #[u166000, .slice (some ⟨go93, 0, none⟩) x166001_5.length co102] 56 (0, 0)) (by (with_reducible repeat (first | refine ΩA_3 ?_ _ | refine ΩC_3 ?_ | refine ΩB_3 ?_ _)); exact BK165.out) hg (Kd.R_ne HO_166001.out BK165.out (by decide))); have n6_ := Ω5_3 (Kd.R_after (v := (.slice (some ⟨go93, 0, none⟩) x166001_5.length co102)) (v1 := (.slice (some ⟨go93, 0, none⟩) x166001_5.length co102)) (ok := (fun k_ => some k_ ≠ (.slice (some ad169) x14_5.length co95 : Value).ownBlock ∧ some k_ ≠ (u166000 : Value).ownBlock ∧ some k_ ≠ (.slice Ao99 t174.length co99 : Value).ownBlock)) (by (with_reducible repeat (first | apply Ω1_3 | apply Ω2_3 | apply Ω3_3)); exact Kd.R_mono HO172.out (fun _ hk => ⟨⟨hk.1.1.1.2, ⟨hk.1.1.2, hk.2⟩⟩, hk.1.2⟩)) hg (.inl rfl)); have n7_ := Ω5_3 (Kd.R_after (v := (.slice (some ⟨go93, 0, none⟩) x166001_5.length co102)) (v1 := (.slice (some ⟨go93, 0, none⟩) x166001_5.length co102)) (ok := (fun k_ => some k_ ≠ (.slice (some ad169) x14_5.length co95 : Value).ownBlock ∧ some k_ ≠ (u166000 : Value).ownBlock ∧ some k_ ≠ (.slice Ao97 t170.length co97 : Value).ownBlock)) (by (with_reducible repeat (first | apply Ω1_3 | apply Ω2_3 | apply Ω3_3)); exact Kd.R_mono HO176.out (fun _ hk => ⟨⟨hk.1.1.1.2, ⟨hk.1.1.2, hk.2⟩⟩, hk.1.2⟩)) hg (.inl rfl)); have n8_ := Ω5_3 ((by rw [hw]; exact Ω9_3 (HB.out) GB93.out : Below w.heap.size w w107)); clear HO_14; clear HO_166000; clear HO_166001; clear BK146; clear BK147; clear BK165; clear HO172; clear HO176; clear HB; have HO_14 := n0_; have HO_166000 := n1_; have HO_166001 := n2_; have BK146 := n3_; have BK147 := n4_; have BK165 := n5_; have HO172 := n6_; have HO176 := n7_; have HB := n8_; clear n0_ n1_ n2_ n3_ n4_ n5_ n6_ n7_ n8_; clear hg hw hp_))
                            go_roundg k5
                            case measure => have := HJ4.out; have := HJ28.out; have := HK3.out; have := HK4.out; have := HK5.out; omega
                            case rel => exact ⟨(x14_5), (wrap64 (x16_5 + 1)), (x166000_5), (y182), (u166000), (.slice (some ⟨go93, 0, none⟩) x166001_5.length co102), (by first | rfl | (simp; done) | (simp [*]; done)), H', ⟨by have := HJ4.out; have := HJ28.out; have := HK3.out; have := HK4.out; have := HK5.out; omega⟩, ⟨by (with_reducible repeat (first | apply Ω1_3 | apply Ω2_3 | apply Ω3_3)); exact Kd.R_mono HO_14.out (fun _ hk => ⟨hk.1.1, hk.2⟩)⟩, ⟨by (with_reducible repeat (first | apply Ω1_3 | apply Ω2_3 | apply Ω3_3)); exact Kd.R_mono HO_166000.out (fun _ hk => ⟨hk.1.1, hk.2⟩)⟩, ⟨by (with_reducible repeat (first | apply Ω1_3 | apply Ω2_3 | apply Ω3_3)); exact Kd.R_mono HO_166001.out (fun _ hk => ⟨hk.1, hk.2.1⟩)⟩, ⟨by (with_reducible repeat (first | refine ΩA_3 ?_ _ | refine ΩC_3 ?_ | refine ΩB_3 ?_ _)); exact BK146.out⟩, ⟨by (with_reducible repeat (first | refine ΩA_3 ?_ _ | refine ΩC_3 ?_ | refine ΩB_3 ?_ _)); exact BK147.out⟩, ⟨by (with_reducible repeat (first | refine ΩA_3 ?_ _ | refine ΩC_3 ?_ | refine ΩB_3 ?_ _)); exact BK165.out⟩, ⟨by repeat (first | (with_reducible first | exact HB.out | apply Ω6_3 | apply Ω7_3 | apply Ω8_3 | refine Ω9_3 ?_ GE146.out | refine Ω9_3 ?_ GE147.out | refine Ω9_3 ?_ GE165.out) | exact HB.out)⟩⟩
                           ·rw [if_neg c92] at H
                            have c92b0 : decide (t180 < t178) = false := decide_eq_false c92
                            clear c92
                            have H' := Ω5_3 H
                            clear H
                            try go_wp2
                            have n0_ := Ω5_3 (Ω3_3 HO_14.out);have n1_ := Ω5_3 (Ω3_3 HO_166000.out);have n2_ := Ω5_3 (Ω3_3 HO_166001.out);have n3_ := Ω5_3 (ΩC_3 BK146.out);have n4_ := Ω5_3 (ΩC_3 BK147.out);have n5_ := Ω5_3 (ΩC_3 BK165.out);have n6_ := Ω5_3 (Ω8_3 HB.out);clear HO_14 HO_166000 HO_166001 BK146 BK147 BK165 HB;have HO_14 := n0_;have HO_166000 := n1_;have HO_166001 := n2_;have BK146 := n3_;have BK147 := n4_;have BK165 := n5_;have HB := n6_;clear n0_ n1_ n2_ n3_ n4_ n5_ n6_
                            obtain ⟨Ao109, co109, eo109⟩ := Kd.R_slice HO_14.out
                            (first | subst eo109 | (injection eo109 with f1_ f2_ f3_; have f4_ := f1_.symm; have f5_ := f3_.symm; clear f1_ f2_ f3_; subst f4_; subst f5_))
                            have p169 : 0 ≤ ((ji62) : Int) := ΩS_3 (by first | (with_reducible assumption) | assumption)
                            have q169 : (ji62) < (x14_5.length : Int) := ΩS_3 (by first | (with_reducible assumption) | assumption)
                            obtain ⟨ad169, e169, hx169_0⟩ := Kd.at_int (Kd.R_reads' HO_14.out).2.2 (ji62) p169 q169
                            cases e169
                            replace p169 := eq_true p169;replace q169 := eq_true q169
                            have p173 : 0 ≤ ((ji66) : Int) := ΩS_3 (by first | (with_reducible assumption) | assumption)
                            have q173 : (ji66) < (x14_5.length : Int) := ΩS_3 (by first | (with_reducible assumption) | assumption)
                            obtain ⟨ad173, e173, hx173_0⟩ := Kd.at_int (Kd.R_reads' HO_14.out).2.2 (ji66) p173 q173
                            obtain rfl : ad169 = ad173 := (by injection e173)
                            replace p173 := eq_true p173;replace q173 := eq_true q173
                            refine start_ (n := 28) (S := fun w' => w'.cell? ⟨gb146, 0, none⟩ = some (.slice (some ad149) l0_0.length c0_0) ∧ w'.cell? ⟨gb146, 1, none⟩ = some (.slice A0_1 l0_1.length c0_1) ∧ w'.cell? (ad169.add ((ji62)).toNat) = some (.int .i64 (rd x14_5 (ji62))) ∧ w'.cell? (ad169.add ((ji66)).toNat) = some (.int .i64 (rd x14_5 (ji66)))) (ds := []) #[false, false, false, false, false, false, false, false, false, false, false, false, false, false, false, false, false, false, false, false, false, false, false, false, false, false, false, false] (by kernel_rfl) rfl rfl ⟨(blk_cell BK146.out 0).trans rfl, (blk_cell BK146.out 1).trans rfl, hx169_0, hx173_0⟩ (fun hHeld => ?_); refine with_tabW spec_l5Pool.tab19 spec_l5Pool.bits19 (fun HT_ HW_ => ?_)
                            generalize wr.drew = w108 at HO_14 HO_166000 HO_166001 BK146 BK147 BK165 HB hx169_0 hx173_0 hHeld ⊢
                            refine pure_ (i := 1) (N := some 87) (v := ?_) (a' := ?_) #[false, true, false, false, false, false, false, false, false, false, false, false, false, false, false, false, false, false, false, false, false, false, false, false, false, false, false, false] rfl rfl (any_of HT_.out (by kernel_rfl)) (fun _ _ _ h => h) (Or.inl ⟨by rfl, ?_⟩) ?_ ?_
                            rotate_left
                            ·intro w'
                             go_simp
                             with_reducible rfl
                            rotate_left
                            ·simp only [Act.put, List.setIfInBounds_toArray, List.set_cons_zero, List.set_cons_succ, i64_w, i32_w]
                             rfl
                            refine pure_ (i := 2) (N := some 88) (v := ?_) (a' := ?_) #[false, true, true, false, false, false, false, false, false, false, false, false, false, false, false, false, false, false, false, false, false, false, false, false, false, false, false, false] rfl rfl (any_of HT_.out (by kernel_rfl)) (fun _ _ _ h => h) (Or.inl ⟨by rfl, ?_⟩) ?_ ?_
                            rotate_left
                            ·intro w'
                             go_simp
                             with_reducible rfl
                            rotate_left
                            ·simp only [Act.put, List.setIfInBounds_toArray, List.set_cons_zero, List.set_cons_succ, i64_w, i32_w]
                             rfl
                            refine pure_ (i := 3) (N := some 89) (v := ?_) (a' := ?_) #[false, true, true, true, false, false, false, false, false, false, false, false, false, false, false, false, false, false, false, false, false, false, false, false, false, false, false, false] rfl rfl (any_of HT_.out (by kernel_rfl)) (fun _ _ _ h => h) (Or.inl ⟨by rfl, ?_⟩) ?_ ?_
                            rotate_left
                            ·intro w'
                             go_simp
                             with_reducible rfl
                            rotate_left
                            ·simp only [Act.put, List.setIfInBounds_toArray, List.set_cons_zero, List.set_cons_succ, i64_w, i32_w]
                             rfl
                            refine pure_ (i := 4) (N := some 90) (v := ?_) (a' := ?_) #[false, true, true, true, true, false, false, false, false, false, false, false, false, false, false, false, false, false, false, false, false, false, false, false, false, false, false, false] rfl rfl (any_of HT_.out (by kernel_rfl)) (fun _ _ _ h => h) (Or.inl ⟨by rfl, ?_⟩) ?_ ?_
                            rotate_left
                            ·intro w'
                             go_simp
                             with_reducible rfl
                            rotate_left
                            ·simp only [Act.put, List.setIfInBounds_toArray, List.set_cons_zero, List.set_cons_succ, i64_w, i32_w]
                             rfl
                            refine pure_ (i := 5) (N := some 91) (v := ?_) (a' := ?_) #[false, true, true, true, true, true, false, false, false, false, false, false, false, false, false, false, false, false, false, false, false, false, false, false, false, false, false, false] rfl rfl (any_of HT_.out (by kernel_rfl)) (fun _ _ _ h => h) (Or.inl ⟨by rfl, ?_⟩) ?_ ?_
                            rotate_left
                            ·intro w'
                             go_simp
                             with_reducible rfl
                            rotate_left
                            ·simp only [Act.put, List.setIfInBounds_toArray, List.set_cons_zero, List.set_cons_succ, i64_w, i32_w]
                             rfl
                            refine pure_ (i := 6) (N := some 92) (v := ?_) (a' := ?_) #[false, true, true, true, true, true, true, false, false, false, false, false, false, false, false, false, false, false, false, false, false, false, false, false, false, false, false, false] rfl rfl (any_of HT_.out (by kernel_rfl)) (fun _ _ _ h => h) (Or.inl ⟨by rfl, ?_⟩) ?_ ?_
                            rotate_left
                            ·intro w'
                             go_simp
                             with_reducible rfl
                            rotate_left
                            ·simp only [Act.put, List.setIfInBounds_toArray, List.set_cons_zero, List.set_cons_succ, i64_w, i32_w]
                             rfl
                            refine pure_ (i := 7) (N := some 93) (v := ?_) (a' := ?_) #[false, true, true, true, true, true, true, true, false, false, false, false, false, false, false, false, false, false, false, false, false, false, false, false, false, false, false, false] rfl rfl (any_of HT_.out (by kernel_rfl)) (fun _ _ _ h => h) (Or.inl ⟨by rfl, ?_⟩) ?_ ?_
                            rotate_left
                            ·intro w'
                             go_simp
                             with_reducible rfl
                            rotate_left
                            ·simp only [Act.put, List.setIfInBounds_toArray, List.set_cons_zero, List.set_cons_succ, i64_w, i32_w]
                             rfl
                            refine pure_ (i := 9) (N := some 95) (v := ?_) (a' := ?_) #[false, true, true, true, true, true, true, true, false, true, false, false, false, false, false, false, false, false, false, false, false, false, false, false, false, false, false, false] rfl rfl (any_of HT_.out (by kernel_rfl)) (fun _ _ _ h => h) (Or.inl ⟨by rfl, ?_⟩) ?_ ?_
                            rotate_left
                            ·intro w'
                             go_simp
                             with_reducible rfl
                            rotate_left
                            ·simp only [Act.put, List.setIfInBounds_toArray, List.set_cons_zero, List.set_cons_succ, i64_w, i32_w]
                             rfl
                            refine pure_ (i := 11) (N := some 97) (v := ?_) (a' := ?_) #[false, true, true, true, true, true, true, true, false, true, false, true, false, false, false, false, false, false, false, false, false, false, false, false, false, false, false, false] rfl rfl (any_of HT_.out (by kernel_rfl)) (fun _ _ _ h => h) (Or.inl ⟨by rfl, ?_⟩) ?_ ?_
                            rotate_left
                            ·intro w'
                             go_simp
                             with_reducible rfl
                            rotate_left
                            ·simp only [Act.put, List.setIfInBounds_toArray, List.set_cons_zero, List.set_cons_succ, i64_w, i32_w]
                             rfl
                            refine pure_ (i := 14) (N := some 100) (v := ?_) (a' := ?_) #[false, true, true, true, true, true, true, true, false, true, false, true, false, false, true, false, false, false, false, false, false, false, false, false, false, false, false, false] rfl rfl (any_of HT_.out (by kernel_rfl)) (fun _ _ _ h => h) (Or.inl ⟨by rfl, ?_⟩) ?_ ?_
                            rotate_left
                            ·intro w'
                             go_simp
                             with_reducible rfl
                            rotate_left
                            ·simp only [Act.put, List.setIfInBounds_toArray, List.set_cons_zero, List.set_cons_succ, i64_w, i32_w]
                             rfl
                            refine pure_ (i := 15) (N := some 101) (v := ?_) (a' := ?_) #[false, true, true, true, true, true, true, true, false, true, false, true, false, false, true, true, false, false, false, false, false, false, false, false, false, false, false, false] rfl rfl (any_of HT_.out (by kernel_rfl)) (fun _ _ _ h => h) (Or.inl ⟨by rfl, ?_⟩) ?_ ?_
                            rotate_left
                            ·intro w'
                             go_simp
                             with_reducible rfl
                            rotate_left
                            ·simp only [Act.put, List.setIfInBounds_toArray, List.set_cons_zero, List.set_cons_succ, i64_w, i32_w]
                             rfl
                            refine pure_ (i := 16) (N := some 102) (v := ?_) (a' := ?_) #[false, true, true, true, true, true, true, true, false, true, false, true, false, false, true, true, true, false, false, false, false, false, false, false, false, false, false, false] rfl rfl (any_of HT_.out (by kernel_rfl)) (fun _ _ _ h => h) (Or.inl ⟨by rfl, ?_⟩) ?_ ?_
                            rotate_left
                            ·intro w'
                             go_simp
                             with_reducible rfl
                            rotate_left
                            ·simp only [Act.put, List.setIfInBounds_toArray, List.set_cons_zero, List.set_cons_succ, i64_w, i32_w]
                             rfl
                            refine pure_ (i := 17) (N := some 103) (v := ?_) (a' := ?_) #[false, true, true, true, true, true, true, true, false, true, false, true, false, false, true, true, true, true, false, false, false, false, false, false, false, false, false, false] rfl rfl (any_of HT_.out (by kernel_rfl)) (fun _ _ _ h => h) (Or.inl ⟨by rfl, ?_⟩) ?_ ?_
                            rotate_left
                            ·intro w'
                             go_simp
                             with_reducible rfl
                            rotate_left
                            ·simp only [Act.put, List.setIfInBounds_toArray, List.set_cons_zero, List.set_cons_succ, i64_w, i32_w]
                             rfl
                            refine pure_ (i := 18) (N := some 104) (v := ?_) (a' := ?_) #[false, true, true, true, true, true, true, true, false, true, false, true, false, false, true, true, true, true, true, false, false, false, false, false, false, false, false, false] rfl rfl (any_of HT_.out (by kernel_rfl)) (fun _ _ _ h => h) (Or.inl ⟨by rfl, ?_⟩) ?_ ?_
                            rotate_left
                            ·intro w'
                             go_simp
                             with_reducible rfl
                            rotate_left
                            ·simp only [Act.put, List.setIfInBounds_toArray, List.set_cons_zero, List.set_cons_succ, i64_w, i32_w]
                             rfl
                            refine pure_ (i := 19) (N := some 105) (v := ?_) (a' := ?_) #[false, true, true, true, true, true, true, true, false, true, false, true, false, false, true, true, true, true, true, true, false, false, false, false, false, false, false, false] rfl rfl (any_of HT_.out (by kernel_rfl)) (fun _ _ _ h => h) (Or.inl ⟨by rfl, ?_⟩) ?_ ?_
                            rotate_left
                            ·intro w'
                             go_simp
                             with_reducible rfl
                            rotate_left
                            ·simp only [Act.put, List.setIfInBounds_toArray, List.set_cons_zero, List.set_cons_succ, i64_w, i32_w]
                             rfl
                            refine pure_ (i := 21) (N := some 107) (v := ?_) (a' := ?_) #[false, true, true, true, true, true, true, true, false, true, false, true, false, false, true, true, true, true, true, true, false, true, false, false, false, false, false, false] rfl rfl (any_of HT_.out (by kernel_rfl)) (fun _ _ _ h => h) (Or.inl ⟨by rfl, ?_⟩) ?_ ?_
                            rotate_left
                            ·intro w'
                             go_simp
                             with_reducible rfl
                            rotate_left
                            ·simp only [Act.put, List.setIfInBounds_toArray, List.set_cons_zero, List.set_cons_succ, i64_w, i32_w]
                             rfl
                            refine pure_ (i := 23) (N := some 109) (v := ?_) (a' := ?_) #[false, true, true, true, true, true, true, true, false, true, false, true, false, false, true, true, true, true, true, true, false, true, false, true, false, false, false, false] rfl rfl (any_of HT_.out (by kernel_rfl)) (fun _ _ _ h => h) (Or.inl ⟨by rfl, ?_⟩) ?_ ?_
                            rotate_left
                            ·intro w'
                             go_simp
                             with_reducible rfl
                            rotate_left
                            ·simp only [Act.put, List.setIfInBounds_toArray, List.set_cons_zero, List.set_cons_succ, i64_w, i32_w]
                             rfl
                            refine take_ (i := 0) (N := some 86) (v := ?_) (a' := ?_) #[true, true, true, true, true, true, true, true, false, true, false, true, false, false, true, true, true, true, true, true, false, true, false, true, false, false, false, false] rfl rfl (take_ofW HT_.out HW_.out (by kernel_rfl)) (fun _ _ _ h => h) (Or.inl ⟨by rfl, ?_⟩) hHeld ?_ ?_
                            rotate_left
                            ·rintro w' ⟨s0, s1, s2, s3⟩
                             go_simp
                             with_reducible rfl
                            rotate_left
                            ·simp only [Act.put, List.setIfInBounds_toArray, List.set_cons_zero, List.set_cons_succ, i64_w, i32_w]
                             rfl
                            refine take_ (i := 8) (N := some 94) (v := ?_) (a' := ?_) #[true, true, true, true, true, true, true, true, true, true, false, true, false, false, true, true, true, true, true, true, false, true, false, true, false, false, false, false] rfl rfl (take_ofW HT_.out HW_.out (by kernel_rfl)) (fun _ _ _ h => h) (Or.inl ⟨by rfl, ?_⟩) hHeld ?_ ?_
                            rotate_left
                            ·rintro w' ⟨s0, s1, s2, s3⟩
                             go_simp
                             with_reducible rfl
                            rotate_left
                            ·simp only [Act.put, List.setIfInBounds_toArray, List.set_cons_zero, List.set_cons_succ, i64_w, i32_w]
                             rfl
                            refine pure_ (i := 10) (N := some 96) (v := ?_) (a' := ?_) #[true, true, true, true, true, true, true, true, true, true, true, true, false, false, true, true, true, true, true, true, false, true, false, true, false, false, false, false] rfl rfl (any_of HT_.out (by kernel_rfl)) (fun _ _ _ h => h) (Or.inl ⟨by rfl, ?_⟩) ?_ ?_
                            rotate_left
                            ·intro w'
                             go_simp
                             with_reducible rfl
                            rotate_left
                            ·simp only [Act.put, List.setIfInBounds_toArray, List.set_cons_zero, List.set_cons_succ, i64_w, i32_w]
                             rfl
                            refine pure_ (i := 12) (N := some 98) (v := ?_) (a' := ?_) #[true, true, true, true, true, true, true, true, true, true, true, true, true, false, true, true, true, true, true, true, false, true, false, true, false, false, false, false] rfl rfl (any_of HT_.out (by kernel_rfl)) (fun _ _ _ h => h) (Or.inl ⟨by rfl, ?_⟩) ?_ ?_
                            rotate_left
                            ·intro w'
                             go_simp
                             with_reducible rfl
                            rotate_left
                            ·simp only [Act.put, List.setIfInBounds_toArray, List.set_cons_zero, List.set_cons_succ, i64_w, i32_w]
                             rfl
                            refine take_ (i := 20) (N := some 106) (v := ?_) (a' := ?_) #[true, true, true, true, true, true, true, true, true, true, true, true, true, false, true, true, true, true, true, true, true, true, false, true, false, false, false, false] rfl rfl (take_ofW HT_.out HW_.out (by kernel_rfl)) (fun _ _ _ h => h) (Or.inl ⟨by rfl, ?_⟩) hHeld ?_ ?_
                            rotate_left
                            ·rintro w' ⟨s0, s1, s2, s3⟩
                             go_simp
                             with_reducible rfl
                            rotate_left
                            ·simp only [Act.put, List.setIfInBounds_toArray, List.set_cons_zero, List.set_cons_succ, i64_w, i32_w]
                             rfl
                            refine pure_ (i := 22) (N := some 108) (v := ?_) (a' := ?_) #[true, true, true, true, true, true, true, true, true, true, true, true, true, false, true, true, true, true, true, true, true, true, true, true, false, false, false, false] rfl rfl (any_of HT_.out (by kernel_rfl)) (fun _ _ _ h => h) (Or.inl ⟨by rfl, ?_⟩) ?_ ?_
                            rotate_left
                            ·intro w'
                             go_simp
                             with_reducible rfl
                            rotate_left
                            ·simp only [Act.put, List.setIfInBounds_toArray, List.set_cons_zero, List.set_cons_succ, i64_w, i32_w]
                             rfl
                            refine pure_ (i := 24) (N := some 110) (v := ?_) (a' := ?_) #[true, true, true, true, true, true, true, true, true, true, true, true, true, false, true, true, true, true, true, true, true, true, true, true, true, false, false, false] rfl rfl (any_of HT_.out (by kernel_rfl)) (fun _ _ _ h => h) (Or.inl ⟨by rfl, ?_⟩) ?_ ?_
                            rotate_left
                            ·intro w'
                             go_simp
                             with_reducible rfl
                            rotate_left
                            ·simp only [Act.put, List.setIfInBounds_toArray, List.set_cons_zero, List.set_cons_succ, i64_w, i32_w]
                             rfl
                            refine one_ (i := 13) (N := some 99) #[true, true, true, true, true, true, true, true, true, true, true, true, true, true, true, true, true, true, true, true, true, true, true, true, true, false, false, false] rfl rfl (one_of HT_.out (by kernel_rfl)) (by decide) (fun K hK => ?_)
                            refine goes_ Try.func84 (by kernel_rfl) rfl #[.slice (some ad169) x14_5.length co109, .int .i64 ji62, .int .i64 (wrap64 ((wrap64 ((rd x14_5 (ji62)) * a2)) + x15_4))] (by rfl) rfl rfl (by (try simp only [List.map_toArray, List.map_cons, List.map_nil]); first | done | (simp only [hji62]; rfl) | rfl | (simp only [List.length_drop, List.length_take]; rfl)) ?_
                            with_reducible refine (spec_l4With.calls _ _ x14_5 ji62 (wrap64 ((wrap64 ((rd x14_5 (ji62)) * a2)) + x15_4)) t170 _ ?side1 ?side2 A65.out).mono ?_
                            (case side1 => repeat (first | exact (Kd.R_reads' HO_14.out).2.2 | (with_reducible refine Kd.C_alloc ?_ _) | (with_reducible refine Kd.C_drewN ?_ _) | (with_reducible refine Kd.C_drew ?_)))
                            (case side2 => exact (Kd.R_reads' HO_14.out).2.1)
                            rintro e w110 ⟨v171, rfl, ho0, hb⟩
                            have HS2_ := (hb.cell (World.block_lt_of_cell? _ _ (hHeld.2.2.1))).trans (hHeld.2.2.1)
                            have HS3_ := (hb.cell (World.block_lt_of_cell? _ _ (hHeld.2.2.2))).trans (hHeld.2.2.2)
                            refine ⟨_, rfl, ?_⟩
                            have n0_ := Ω5_3 (Kd.R_elder' (by (with_reducible repeat (first | apply Ω1_3 | apply Ω2_3 | apply Ω3_3)); exact HO_14.out) (Kd.R_base ho0) hb);have n1_ := Ω5_3 (Kd.R_elder' (by (with_reducible repeat (first | apply Ω1_3 | apply Ω2_3 | apply Ω3_3)); exact HO_166000.out) (Kd.R_base ho0) hb);have n2_ := Ω5_3 (Kd.R_elder' (by (with_reducible repeat (first | apply Ω1_3 | apply Ω2_3 | apply Ω3_3)); exact HO_166001.out) (Kd.R_base ho0) hb);have n3_ := Ω5_3 (Kd.R_lower (Kd.R_new' (Kd.R_new' (Kd.R_new' ho0 (Kd.R_lt (by (with_reducible repeat (first | apply Ω1_3 | apply Ω2_3 | apply Ω3_3)); exact HO_14.out))) (Kd.R_lt (by (with_reducible repeat (first | apply Ω1_3 | apply Ω2_3 | apply Ω3_3)); exact HO_166000.out))) (Kd.R_lt (by (with_reducible repeat (first | apply Ω1_3 | apply Ω2_3 | apply Ω3_3)); exact HO_166001.out))) (below_size (by repeat (first | (with_reducible first | exact HB.out | apply Ω6_3 | apply Ω7_3 | apply Ω8_3 | refine Ω9_3 ?_ GE146.out | refine Ω9_3 ?_ GE147.out | refine Ω9_3 ?_ GE165.out) | exact HB.out))));have n4_ := Ω5_3 (blk_below (g := gb146) (o := .cells #[.slice (some ad149) l0_0.length c0_0, .slice A0_1 l0_1.length c0_1] 56 (0, 0)) (by (with_reducible repeat (first | refine ΩA_3 ?_ _ | refine ΩC_3 ?_ | refine ΩB_3 ?_ _)); exact BK146.out) hb);have n5_ := Ω5_3 (blk_below (g := gb147) (o := .cells #[.slice none 0 0, .slice none 0 0] 56 (0, 0)) (by (with_reducible repeat (first | refine ΩA_3 ?_ _ | refine ΩC_3 ?_ | refine ΩB_3 ?_ _)); exact BK147.out) hb);have n6_ := Ω5_3 (blk_below (g := gb165) (o := .cells #[u166000, u166001] 56 (0, 0)) (by (with_reducible repeat (first | refine ΩA_3 ?_ _ | refine ΩC_3 ?_ | refine ΩB_3 ?_ _)); exact BK165.out) hb);have n7_ := Ω5_3 (below_step (by repeat (first | (with_reducible first | exact HB.out | apply Ω6_3 | apply Ω7_3 | apply Ω8_3 | refine Ω9_3 ?_ GE146.out | refine Ω9_3 ?_ GE147.out | refine Ω9_3 ?_ GE165.out) | exact HB.out)) hb);clear HO_14 HO_166000 HO_166001 BK146 BK147 BK165 HB;have HO_14 := n0_;have HO_166000 := n1_;have HO_166001 := n2_;have HO172 := n3_;have BK146 := n4_;have BK147 := n5_;have BK165 := n6_;have HB := n7_;clear n0_ n1_ n2_ n3_ n4_ n5_ n6_ n7_
                            (try clear hb)
                            (try clear hb2)
                            (try clear hk)
                            (try clear hi)
                            (try clear ho0)
                            obtain ⟨Ao111, co111, eo111⟩ := Kd.R_slice HO172.out
                            (first | subst eo111 | (injection eo111 with f1_ f2_ f3_; have f4_ := f1_.symm; have f5_ := f3_.symm; clear f1_ f2_ f3_; subst f4_; subst f5_))
                            refine hK.out _ _ ⟨(blk_cell BK146.out 0).trans rfl, (blk_cell BK146.out 1).trans rfl, HS2_, HS3_⟩ (fun hHeld => ?_)
                            clear hK K
                            refine norm_ (a' := ?_) ?_ ?_
                            rotate_left
                            ·show Act.put _ (some 99) _ = _
                             simp only [Act.put, List.setIfInBounds_toArray, List.set_cons_zero, List.set_cons_succ, i64_w, i32_w]
                             rfl
                            refine one_ (i := 25) (N := some 111) #[true, true, true, true, true, true, true, true, true, true, true, true, true, true, true, true, true, true, true, true, true, true, true, true, true, true, false, false] rfl rfl (one_of HT_.out (by kernel_rfl)) (by decide) (fun K hK => ?_)
                            refine goes_ Try.func84 (by kernel_rfl) rfl #[.slice Ao111 t170.length co111, .int .i64 ji66, .int .i64 (wrap64 ((wrap64 ((rd x14_5 (ji66)) * a2)) + x16_5))] (by rfl) rfl rfl (by (try simp only [List.map_toArray, List.map_cons, List.map_nil]); first | done | (simp only [hji66]; rfl) | rfl | (simp only [List.length_drop, List.length_take]; rfl)) ?_
                            with_reducible refine (spec_l4With.calls _ _ t170 ji66 (wrap64 ((wrap64 ((rd x14_5 (ji66)) * a2)) + x16_5)) t174 _ ?side1 ?side2 A69.out).mono ?_
                            (case side1 => repeat (first | exact (Kd.R_reads' HO172.out).2.2 | (with_reducible refine Kd.C_alloc ?_ _) | (with_reducible refine Kd.C_drewN ?_ _) | (with_reducible refine Kd.C_drew ?_)))
                            (case side2 => exact (Kd.R_reads' HO172.out).2.1)
                            rintro e w112 ⟨v175, rfl, ho0, hb⟩
                            have HS2_ := (hb.cell (World.block_lt_of_cell? _ _ (hHeld.2.2.1))).trans (hHeld.2.2.1)
                            have HS3_ := (hb.cell (World.block_lt_of_cell? _ _ (hHeld.2.2.2))).trans (hHeld.2.2.2)
                            refine ⟨_, rfl, ?_⟩
                            have n0_ := Ω5_3 (Kd.R_elder' (by (with_reducible repeat (first | apply Ω1_3 | apply Ω2_3 | apply Ω3_3)); exact HO_14.out) (Kd.R_base ho0) hb);have n1_ := Ω5_3 (Kd.R_elder' (by (with_reducible repeat (first | apply Ω1_3 | apply Ω2_3 | apply Ω3_3)); exact HO_166000.out) (Kd.R_base ho0) hb);have n2_ := Ω5_3 (Kd.R_elder' (by (with_reducible repeat (first | apply Ω1_3 | apply Ω2_3 | apply Ω3_3)); exact HO_166001.out) (Kd.R_base ho0) hb);have n3_ := Ω5_3 (Kd.R_elder' (by (with_reducible repeat (first | apply Ω1_3 | apply Ω2_3 | apply Ω3_3)); exact HO172.out) (Kd.R_base ho0) hb);have n4_ := Ω5_3 (Kd.R_lower (Kd.R_new' (Kd.R_new' (Kd.R_new' (Kd.R_new' ho0 (Kd.R_lt (by (with_reducible repeat (first | apply Ω1_3 | apply Ω2_3 | apply Ω3_3)); exact HO_14.out))) (Kd.R_lt (by (with_reducible repeat (first | apply Ω1_3 | apply Ω2_3 | apply Ω3_3)); exact HO_166000.out))) (Kd.R_lt (by (with_reducible repeat (first | apply Ω1_3 | apply Ω2_3 | apply Ω3_3)); exact HO_166001.out))) (Kd.R_lt (by (with_reducible repeat (first | apply Ω1_3 | apply Ω2_3 | apply Ω3_3)); exact HO172.out))) (below_size (by repeat (first | (with_reducible first | exact HB.out | apply Ω6_3 | apply Ω7_3 | apply Ω8_3 | refine Ω9_3 ?_ GE146.out | refine Ω9_3 ?_ GE147.out | refine Ω9_3 ?_ GE165.out) | exact HB.out))));have n5_ := Ω5_3 (blk_below (g := gb146) (o := .cells #[.slice (some ad149) l0_0.length c0_0, .slice A0_1 l0_1.length c0_1] 56 (0, 0)) (by (with_reducible repeat (first | refine ΩA_3 ?_ _ | refine ΩC_3 ?_ | refine ΩB_3 ?_ _)); exact BK146.out) hb);have n6_ := Ω5_3 (blk_below (g := gb147) (o := .cells #[.slice none 0 0, .slice none 0 0] 56 (0, 0)) (by (with_reducible repeat (first | refine ΩA_3 ?_ _ | refine ΩC_3 ?_ | refine ΩB_3 ?_ _)); exact BK147.out) hb);have n7_ := Ω5_3 (blk_below (g := gb165) (o := .cells #[u166000, u166001] 56 (0, 0)) (by (with_reducible repeat (first | refine ΩA_3 ?_ _ | refine ΩC_3 ?_ | refine ΩB_3 ?_ _)); exact BK165.out) hb);have n8_ := Ω5_3 (below_step (by repeat (first | (with_reducible first | exact HB.out | apply Ω6_3 | apply Ω7_3 | apply Ω8_3 | refine Ω9_3 ?_ GE146.out | refine Ω9_3 ?_ GE147.out | refine Ω9_3 ?_ GE165.out) | exact HB.out)) hb);clear HO_14 HO_166000 HO_166001 HO172 BK146 BK147 BK165 HB;have HO_14 := n0_;have HO_166000 := n1_;have HO_166001 := n2_;have HO172 := n3_;have HO176 := n4_;have BK146 := n5_;have BK147 := n6_;have BK165 := n7_;have HB := n8_;clear n0_ n1_ n2_ n3_ n4_ n5_ n6_ n7_ n8_
                            (try clear hb)
                            (try clear hb2)
                            (try clear hk)
                            (try clear hi)
                            (try clear ho0)
                            obtain ⟨Ao113, co113, eo113⟩ := Kd.R_slice HO176.out
                            (first | subst eo113 | (injection eo113 with f1_ f2_ f3_; have f4_ := f1_.symm; have f5_ := f3_.symm; clear f1_ f2_ f3_; subst f4_; subst f5_))
                            refine hK.out _ _ ⟨(blk_cell BK146.out 0).trans rfl, (blk_cell BK146.out 1).trans rfl, HS2_, HS3_⟩ (fun hHeld => ?_)
                            clear hK K
                            refine norm_ (a' := ?_) ?_ ?_
                            rotate_left
                            ·show Act.put _ (some 111) _ = _
                             simp only [Act.put, List.setIfInBounds_toArray, List.set_cons_zero, List.set_cons_succ, i64_w, i32_w]
                             rfl
                            refine one_ (i := 26) (N := some 112) #[true, true, true, true, true, true, true, true, true, true, true, true, true, true, true, true, true, true, true, true, true, true, true, true, true, true, true, false] rfl rfl (one_of HT_.out (by kernel_rfl)) (by decide) (fun K hK => ?_)
                            refine goes_ Try.func86 (by kernel_rfl) rfl #[.agg #[.slice (some ad149) l0_0.length c0_0, .slice A0_1 l0_1.length c0_1], .slice Ao113 t174.length co113] (by rfl) rfl rfl (by (try simp only [List.map_toArray, List.map_cons, List.map_nil]); first | done | rfl | (simp only [List.length_drop, List.length_take]; rfl)) ?_
                            with_reducible refine (spec_l4Get.calls k5 _ _ l0_0 _ _ l0_1 _ _ t174 t177 _ ?side1 ?side2 ?side3 ?side4 ?side5 ?side6 A70.out).mono ?_
                            (case side1 => repeat (first | exact (Kd.C_below HR0_0.out HB.out) | (with_reducible refine Kd.C_alloc ?_ _) | (with_reducible refine Kd.C_drewN ?_ _) | (with_reducible refine Kd.C_drew ?_)))
                            (case side2 => exact HC0_0.out)
                            (case side3 => repeat (first | exact (Kd.C_below HR0_1.out HB.out) | (with_reducible refine Kd.C_alloc ?_ _) | (with_reducible refine Kd.C_drewN ?_ _) | (with_reducible refine Kd.C_drew ?_)))
                            (case side4 => exact HC0_1.out)
                            (case side5 => repeat (first | exact (Kd.R_reads' HO176.out).2.2 | (with_reducible refine Kd.C_alloc ?_ _) | (with_reducible refine Kd.C_drewN ?_ _) | (with_reducible refine Kd.C_drew ?_)))
                            (case side6 => exact (Kd.R_reads' HO176.out).2.1)
                            rintro e w114 ⟨rfl, hb⟩
                            have HS2_ := (hb.cell (World.block_lt_of_cell? _ _ (hHeld.2.2.1))).trans (hHeld.2.2.1)
                            have HS3_ := (hb.cell (World.block_lt_of_cell? _ _ (hHeld.2.2.2))).trans (hHeld.2.2.2)
                            refine ⟨_, rfl, ?_⟩
                            have n0_ := Ω5_3 (Kd.R_below (by (with_reducible repeat (first | apply Ω1_3 | apply Ω2_3 | apply Ω3_3)); exact HO_14.out) hb);have n1_ := Ω5_3 (Kd.R_below (by (with_reducible repeat (first | apply Ω1_3 | apply Ω2_3 | apply Ω3_3)); exact HO_166000.out) hb);have n2_ := Ω5_3 (Kd.R_below (by (with_reducible repeat (first | apply Ω1_3 | apply Ω2_3 | apply Ω3_3)); exact HO_166001.out) hb);have n3_ := Ω5_3 (Kd.R_below (by (with_reducible repeat (first | apply Ω1_3 | apply Ω2_3 | apply Ω3_3)); exact HO172.out) hb);have n4_ := Ω5_3 (Kd.R_below (by (with_reducible repeat (first | apply Ω1_3 | apply Ω2_3 | apply Ω3_3)); exact HO176.out) hb);have n5_ := Ω5_3 (blk_below (g := gb146) (o := .cells #[.slice (some ad149) l0_0.length c0_0, .slice A0_1 l0_1.length c0_1] 56 (0, 0)) (by (with_reducible repeat (first | refine ΩA_3 ?_ _ | refine ΩC_3 ?_ | refine ΩB_3 ?_ _)); exact BK146.out) hb);have n6_ := Ω5_3 (blk_below (g := gb147) (o := .cells #[.slice none 0 0, .slice none 0 0] 56 (0, 0)) (by (with_reducible repeat (first | refine ΩA_3 ?_ _ | refine ΩC_3 ?_ | refine ΩB_3 ?_ _)); exact BK147.out) hb);have n7_ := Ω5_3 (blk_below (g := gb165) (o := .cells #[u166000, u166001] 56 (0, 0)) (by (with_reducible repeat (first | refine ΩA_3 ?_ _ | refine ΩC_3 ?_ | refine ΩB_3 ?_ _)); exact BK165.out) hb);have n8_ := Ω5_3 (below_step (by repeat (first | (with_reducible first | exact HB.out | apply Ω6_3 | apply Ω7_3 | apply Ω8_3 | refine Ω9_3 ?_ GE146.out | refine Ω9_3 ?_ GE147.out | refine Ω9_3 ?_ GE165.out) | exact HB.out)) hb);clear HO_14 HO_166000 HO_166001 HO172 HO176 BK146 BK147 BK165 HB;have HO_14 := n0_;have HO_166000 := n1_;have HO_166001 := n2_;have HO172 := n3_;have HO176 := n4_;have BK146 := n5_;have BK147 := n6_;have BK165 := n7_;have HB := n8_;clear n0_ n1_ n2_ n3_ n4_ n5_ n6_ n7_ n8_
                            (try clear hb)
                            (try clear hb2)
                            (try clear hk)
                            (try clear hi)
                            refine hK.out _ _ ⟨(blk_cell BK146.out 0).trans rfl, (blk_cell BK146.out 1).trans rfl, HS2_, HS3_⟩ (fun hHeld => ?_)
                            clear hK K
                            refine norm_ (a' := ?_) ?_ ?_
                            rotate_left
                            ·show Act.put _ (some 112) _ = _
                             simp only [Act.put, List.setIfInBounds_toArray, List.set_cons_zero, List.set_cons_succ, i64_w, i32_w]
                             rfl
                            refine pure_ (i := 27) (N := some 17) (v := ?_) (a' := ?_) #[true, true, true, true, true, true, true, true, true, true, true, true, true, true, true, true, true, true, true, true, true, true, true, true, true, true, true, true] rfl rfl (any_of HT_.out (by kernel_rfl)) (fun _ _ _ h => h) (Or.inl ⟨by rfl, ?_⟩) ?_ ?_
                            rotate_left
                            ·intro w'
                             go_simp
                             with_reducible rfl
                            rotate_left
                            ·simp only [Act.put, List.setIfInBounds_toArray, List.set_cons_zero, List.set_cons_succ, i64_w, i32_w]
                             rfl
                            refine done_ (done_of HT_.out (by kernel_rfl)) ?_
                            try go_wp2
                            have n0_ := Ω5_3 (Ω3_3 HO_14.out);have n1_ := Ω5_3 (Ω3_3 HO_166000.out);have n2_ := Ω5_3 (Ω3_3 HO_166001.out);have n3_ := Ω5_3 (Ω3_3 HO172.out);have n4_ := Ω5_3 (Ω3_3 HO176.out);have n5_ := Ω5_3 (ΩC_3 BK146.out);have n6_ := Ω5_3 (ΩC_3 BK147.out);have n7_ := Ω5_3 (ΩC_3 BK165.out);have n8_ := Ω5_3 (Ω8_3 HB.out);clear HO_14 HO_166000 HO_166001 HO172 HO176 BK146 BK147 BK165 HB;have HO_14 := n0_;have HO_166000 := n1_;have HO_166001 := n2_;have HO172 := n3_;have HO176 := n4_;have BK146 := n5_;have BK147 := n6_;have BK165 := n7_;have HB := n8_;clear n0_ n1_ n2_ n3_ n4_ n5_ n6_ n7_ n8_
                            obtain ⟨Ao116, co116, eo116⟩ := Kd.R_slice HO_166001.out
                            (first | subst eo116 | (injection eo116 with f1_ f2_ f3_; have f4_ := f1_.symm; have f5_ := f3_.symm; clear f1_ f2_ f3_; subst f4_; subst f5_))
                            have p179 : 0 ≤ (x13_3 : Int) := ΩS_3 (by first | (with_reducible assumption) | assumption)
                            have q179 : x13_3 < (x166001_5.length : Int) := ΩS_3 (by first | (with_reducible assumption) | assumption)
                            obtain ⟨ad179, e179, hx179_0⟩ := Kd.at_int (Kd.R_reads' HO_166001.out).2.2 x13_3 p179 q179
                            cases e179
                            replace p179 := eq_true p179;replace q179 := eq_true q179
                            refine start_ (n := 15) (S := fun w' => w'.cell? ⟨gb165, 0, none⟩ = some (u166000) ∧ w'.cell? ⟨gb165, 1, none⟩ = some (.slice (some ad179) x166001_5.length co116) ∧ w'.cell? (ad179.add (x13_3).toNat) = some (.int .i64 (rd x166001_5 x13_3))) (ds := []) #[false, false, false, false, false, false, false, false, false, false, false, false, false, false, false] (by kernel_rfl) rfl rfl ⟨(blk_cell BK165.out 0).trans rfl, (blk_cell BK165.out 1).trans rfl, hx179_0⟩ (fun hHeld => ?_); refine with_tabW spec_l5Pool.tab22 spec_l5Pool.bits22 (fun HT_ HW_ => ?_)
                            generalize w114.drew = w115 at HO_14 HO_166000 HO_166001 HO172 HO176 BK146 BK147 BK165 HB hx179_0 hHeld ⊢
                            refine pure_ (i := 0) (N := some 126) (v := ?_) (a' := ?_) #[true, false, false, false, false, false, false, false, false, false, false, false, false, false, false] rfl rfl (any_of HT_.out (by kernel_rfl)) (fun _ _ _ h => h) (Or.inl ⟨by rfl, ?_⟩) ?_ ?_
                            rotate_left
                            ·intro w'
                             go_simp
                             with_reducible rfl
                            rotate_left
                            ·simp only [Act.put, List.setIfInBounds_toArray, List.set_cons_zero, List.set_cons_succ, i64_w, i32_w]
                             rfl
                            refine pure_ (i := 1) (N := some 127) (v := ?_) (a' := ?_) #[true, true, false, false, false, false, false, false, false, false, false, false, false, false, false] rfl rfl (any_of HT_.out (by kernel_rfl)) (fun _ _ _ h => h) (Or.inl ⟨by rfl, ?_⟩) ?_ ?_
                            rotate_left
                            ·intro w'
                             go_simp
                             with_reducible rfl
                            rotate_left
                            ·simp only [Act.put, List.setIfInBounds_toArray, List.set_cons_zero, List.set_cons_succ, i64_w, i32_w]
                             rfl
                            refine pure_ (i := 2) (N := some 128) (v := ?_) (a' := ?_) #[true, true, true, false, false, false, false, false, false, false, false, false, false, false, false] rfl rfl (any_of HT_.out (by kernel_rfl)) (fun _ _ _ h => h) (Or.inl ⟨by rfl, ?_⟩) ?_ ?_
                            rotate_left
                            ·intro w'
                             go_simp
                             with_reducible rfl
                            rotate_left
                            ·simp only [Act.put, List.setIfInBounds_toArray, List.set_cons_zero, List.set_cons_succ, i64_w, i32_w]
                             rfl
                            refine pure_ (i := 3) (N := some 129) (v := ?_) (a' := ?_) #[true, true, true, true, false, false, false, false, false, false, false, false, false, false, false] rfl rfl (any_of HT_.out (by kernel_rfl)) (fun _ _ _ h => h) (Or.inl ⟨by rfl, ?_⟩) ?_ ?_
                            rotate_left
                            ·intro w'
                             go_simp
                             with_reducible rfl
                            rotate_left
                            ·simp only [Act.put, List.setIfInBounds_toArray, List.set_cons_zero, List.set_cons_succ, i64_w, i32_w]
                             rfl
                            refine pure_ (i := 4) (N := some 130) (v := ?_) (a' := ?_) #[true, true, true, true, true, false, false, false, false, false, false, false, false, false, false] rfl rfl (any_of HT_.out (by kernel_rfl)) (fun _ _ _ h => h) (Or.inl ⟨by rfl, ?_⟩) ?_ ?_
                            rotate_left
                            ·intro w'
                             go_simp
                             with_reducible rfl
                            rotate_left
                            ·simp only [Act.put, List.setIfInBounds_toArray, List.set_cons_zero, List.set_cons_succ, i64_w, i32_w]
                             rfl
                            refine pure_ (i := 5) (N := some 131) (v := ?_) (a' := ?_) #[true, true, true, true, true, true, false, false, false, false, false, false, false, false, false] rfl rfl (any_of HT_.out (by kernel_rfl)) (fun _ _ _ h => h) (Or.inl ⟨by rfl, ?_⟩) ?_ ?_
                            rotate_left
                            ·intro w'
                             go_simp
                             with_reducible rfl
                            rotate_left
                            ·simp only [Act.put, List.setIfInBounds_toArray, List.set_cons_zero, List.set_cons_succ, i64_w, i32_w]
                             rfl
                            refine pure_ (i := 7) (N := some 133) (v := ?_) (a' := ?_) #[true, true, true, true, true, true, false, true, false, false, false, false, false, false, false] rfl rfl (any_of HT_.out (by kernel_rfl)) (fun _ _ _ h => h) (Or.inl ⟨by rfl, ?_⟩) ?_ ?_
                            rotate_left
                            ·intro w'
                             go_simp
                             with_reducible rfl
                            rotate_left
                            ·simp only [Act.put, List.setIfInBounds_toArray, List.set_cons_zero, List.set_cons_succ, i64_w, i32_w]
                             rfl
                            refine pure_ (i := 9) (N := some 135) (v := ?_) (a' := ?_) #[true, true, true, true, true, true, false, true, false, true, false, false, false, false, false] rfl rfl (any_of HT_.out (by kernel_rfl)) (fun _ _ _ h => h) (Or.inl ⟨by rfl, ?_⟩) ?_ ?_
                            rotate_left
                            ·intro w'
                             go_simp
                             with_reducible rfl
                            rotate_left
                            ·simp only [Act.put, List.setIfInBounds_toArray, List.set_cons_zero, List.set_cons_succ, i64_w, i32_w]
                             rfl
                            refine take_ (i := 8) (N := some 134) (v := ?_) (a' := ?_) #[true, true, true, true, true, true, false, true, true, true, false, false, false, false, false] rfl rfl (take_ofW HT_.out HW_.out (by kernel_rfl)) (fun _ _ _ h => h) (Or.inl ⟨by rfl, ?_⟩) hHeld ?_ ?_
                            rotate_left
                            ·rintro w' ⟨s0, s1, s2⟩
                             go_simp
                             with_reducible rfl
                            rotate_left
                            ·simp only [Act.put, List.setIfInBounds_toArray, List.set_cons_zero, List.set_cons_succ, i64_w, i32_w]
                             rfl
                            refine pure_ (i := 10) (N := some 136) (v := ?_) (a' := ?_) #[true, true, true, true, true, true, false, true, true, true, true, false, false, false, false] rfl rfl (any_of HT_.out (by kernel_rfl)) (fun _ _ _ h => h) (Or.inl ⟨by rfl, ?_⟩) ?_ ?_
                            rotate_left
                            ·intro w'
                             go_simp
                             with_reducible rfl
                            rotate_left
                            ·simp only [Act.put, List.setIfInBounds_toArray, List.set_cons_zero, List.set_cons_succ, i64_w, i32_w]
                             rfl
                            refine take_ (i := 11) (N := some 137) (v := ?_) (a' := ?_) #[true, true, true, true, true, true, false, true, true, true, true, true, false, false, false] rfl rfl (take_ofW HT_.out HW_.out (by kernel_rfl)) (fun _ _ _ h => h) (Or.inl ⟨by rfl, ?_⟩) hHeld ?_ ?_
                            rotate_left
                            ·rintro w' ⟨s0, s1, s2⟩
                             go_simp
                             with_reducible rfl
                            rotate_left
                            ·simp only [Act.put, List.setIfInBounds_toArray, List.set_cons_zero, List.set_cons_succ, i64_w, i32_w]
                             rfl
                            refine one_ (i := 6) (N := some 132) #[true, true, true, true, true, true, true, true, true, true, true, true, false, false, false] rfl rfl (one_of HT_.out (by kernel_rfl)) (by decide) (fun K hK => ?_)
                            refine goes_ Try.func88 (by kernel_rfl) rfl #[.int .i64 t177] (by rfl) rfl rfl (by (try simp only [List.map_toArray, List.map_cons, List.map_nil]); first | done | rfl | (simp only [List.length_drop, List.length_take]; rfl)) ?_
                            with_reducible refine (spec_Signed.calls t177 t178 _ A88.out).mono ?_
                            rintro e w' ⟨rfl, ⟨nd, rfl⟩⟩
                            refine ⟨_, rfl, ?_⟩
                            refine hK.out _ _ ⟨(blk_cell BK165.out 0).trans rfl, (blk_cell BK165.out 1).trans rfl, hHeld.2.2⟩ (fun hHeld => ?_)
                            clear hK K
                            refine norm_ (a' := ?_) ?_ ?_
                            rotate_left
                            ·show Act.put _ (some 132) _ = _
                             simp only [Act.put, List.setIfInBounds_toArray, List.set_cons_zero, List.set_cons_succ, i64_w, i32_w]
                             rfl
                            refine one_ (i := 12) (N := some 138) #[true, true, true, true, true, true, true, true, true, true, true, true, true, false, false] rfl rfl (one_of HT_.out (by kernel_rfl)) (by decide) (fun K hK => ?_)
                            refine goes_ Try.func88 (by kernel_rfl) rfl #[.int .i64 (rd x166001_5 x13_3)] (by rfl) rfl rfl (by (try simp only [List.map_toArray, List.map_cons, List.map_nil]); first | done | rfl | (simp only [List.length_drop, List.length_take]; rfl)) ?_
                            with_reducible refine (spec_Signed.calls (rd x166001_5 x13_3) t180 _ A91.out).mono ?_
                            rintro e w' ⟨rfl, ⟨nd, rfl⟩⟩
                            refine ⟨_, rfl, ?_⟩
                            refine hK.out _ _ ⟨(blk_cell BK165.out 0).trans rfl, (blk_cell BK165.out 1).trans rfl, hHeld.2.2⟩ (fun hHeld => ?_)
                            clear hK K
                            refine norm_ (a' := ?_) ?_ ?_
                            rotate_left
                            ·show Act.put _ (some 138) _ = _
                             simp only [Act.put, List.setIfInBounds_toArray, List.set_cons_zero, List.set_cons_succ, i64_w, i32_w]
                             rfl
                            refine pure_ (i := 13) (N := some 139) (v := ?_) (a' := ?_) #[true, true, true, true, true, true, true, true, true, true, true, true, true, true, false] rfl rfl (any_of HT_.out (by kernel_rfl)) (fun _ _ _ h => h) (Or.inl ⟨by rfl, ?_⟩) ?_ ?_
                            rotate_left
                            ·intro w'
                             go_simp
                             with_reducible rfl
                            rotate_left
                            ·simp only [Act.put, List.setIfInBounds_toArray, List.set_cons_zero, List.set_cons_succ, i64_w, i32_w]
                             rfl
                            refine pure_ (i := 14) (N := some 140) (v := ?_) (a' := ?_) #[true, true, true, true, true, true, true, true, true, true, true, true, true, true, true] rfl rfl (any_of HT_.out (by kernel_rfl)) (fun _ _ _ h => h) (Or.inl ⟨by rfl, ?_⟩) ?_ ?_
                            rotate_left
                            ·intro w'
                             go_simp
                             with_reducible rfl
                            rotate_left
                            ·simp only [Act.put, List.setIfInBounds_toArray, List.set_cons_zero, List.set_cons_succ, i64_w, i32_w]
                             rfl
                            refine done_ (done_of HT_.out (by kernel_rfl)) ?_
                            try go_wp2
                            go_roundg k5
                            case measure => have := HJ4.out; have := HJ28.out; have := HK3.out; have := HK4.out; have := HK5.out; omega
                            case rel => exact ⟨(x14_5), (wrap64 (x16_5 + 1)), (x166000_5), (x166001_5), (u166000), (.slice (some ad179) x166001_5.length co116), (by first | rfl | (simp; done) | (simp [*]; done)), H', ⟨by have := HJ4.out; have := HJ28.out; have := HK3.out; have := HK4.out; have := HK5.out; omega⟩, ⟨by (with_reducible repeat (first | apply Ω1_3 | apply Ω2_3 | apply Ω3_3)); exact Kd.R_mono HO_14.out (fun _ hk => ⟨hk.1.1.1, hk.1.1.2⟩)⟩, ⟨by (with_reducible repeat (first | apply Ω1_3 | apply Ω2_3 | apply Ω3_3)); exact Kd.R_mono HO_166000.out (fun _ hk => ⟨hk.1.1.1, hk.1.1.2⟩)⟩, ⟨by (with_reducible repeat (first | apply Ω1_3 | apply Ω2_3 | apply Ω3_3)); exact Kd.R_mono HO_166001.out (fun _ hk => ⟨hk.1.1.1, hk.1.1.2⟩)⟩, ⟨by (with_reducible repeat (first | refine ΩA_3 ?_ _ | refine ΩC_3 ?_ | refine ΩB_3 ?_ _)); exact BK146.out⟩, ⟨by (with_reducible repeat (first | refine ΩA_3 ?_ _ | refine ΩC_3 ?_ | refine ΩB_3 ?_ _)); exact BK147.out⟩, ⟨by (with_reducible repeat (first | refine ΩA_3 ?_ _ | refine ΩC_3 ?_ | refine ΩB_3 ?_ _)); exact BK165.out⟩, ⟨by repeat (first | (with_reducible first | exact HB.out | apply Ω6_3 | apply Ω7_3 | apply Ω8_3 | refine Ω9_3 ?_ GE146.out | refine Ω9_3 ?_ GE147.out | refine Ω9_3 ?_ GE165.out) | exact HB.out)⟩⟩
                          ·rw [if_neg c90] at H
                           exact absurd H (by simp)
                         ·rw [if_neg c89] at H
                          exact absurd H (by simp)
                       ·rw [if_neg c68] at H
                        exact absurd H (by simp)
                      ·rw [if_neg c67] at H
                       exact absurd H (by simp)
                     ·rw [if_neg c64] at H
                      exact absurd H (by simp)
                    ·rw [if_neg c63] at H
                     exact absurd H (by simp)
                   ·rw [if_neg c61] at H
                    have c61b0 : decide (x16_5 < a1) = false := decide_eq_false c61
                    clear c61
                    have H' := Ω5_3 H
                    clear H
                    go_wp2
                    go_roundg k5
                    case measure => have := HJ4.out; have := HJ28.out; have := HK3.out; have := HK4.out; have := HK5.out; omega
                    case rel => exact ⟨(x14_5), (wrap64 (x15_4 + 1)), (x166000_5), (x166001_5), (u166000), (u166001), (by first | rfl | (simp; done) | (simp [*]; done)), H', ⟨by have := HJ4.out; have := HJ28.out; have := HK3.out; have := HK4.out; have := HK5.out; omega⟩, ⟨by (with_reducible repeat (first | apply Ω1_3 | apply Ω2_3 | apply Ω3_3)); exact HO_14.out⟩, ⟨by (with_reducible repeat (first | apply Ω1_3 | apply Ω2_3 | apply Ω3_3)); exact HO_166000.out⟩, ⟨by (with_reducible repeat (first | apply Ω1_3 | apply Ω2_3 | apply Ω3_3)); exact HO_166001.out⟩, ⟨by (with_reducible repeat (first | refine ΩA_3 ?_ _ | refine ΩC_3 ?_ | refine ΩB_3 ?_ _)); exact BK146.out⟩, ⟨by (with_reducible repeat (first | refine ΩA_3 ?_ _ | refine ΩC_3 ?_ | refine ΩB_3 ?_ _)); exact BK147.out⟩, ⟨by (with_reducible repeat (first | refine ΩA_3 ?_ _ | refine ΩC_3 ?_ | refine ΩB_3 ?_ _)); exact BK165.out⟩, ⟨by repeat (first | (with_reducible first | exact HB.out | apply Ω6_3 | apply Ω7_3 | apply Ω8_3 | refine Ω9_3 ?_ GE146.out | refine Ω9_3 ?_ GE147.out | refine Ω9_3 ?_ GE165.out) | exact HB.out)⟩⟩
                ·rw [if_neg c60] at H
                 have c60b0 : decide (x15_4 < a1) = false := decide_eq_false c60
                 clear c60
                 have H' := Ω5_3 H
                 clear H
                 go_wp2
                 go_roundg k4
                 case measure => have := HJ4.out; have := HJ28.out; have := HK3.out; have := HK4.out; omega
                 case rel => exact ⟨(wrap64 (x13_3 + 1)), (x166000_4), (x166001_4), (u166000), (u166001), (by first | rfl | (simp; done) | (simp [*]; done)), H', ⟨by have := HJ4.out; have := HJ28.out; have := HK3.out; have := HK4.out; omega⟩, ⟨by (with_reducible repeat (first | apply Ω1_3 | apply Ω2_3 | apply Ω3_3)); exact Kd.R_mono HO_166000.out (fun _ hk => hk.2)⟩, ⟨by (with_reducible repeat (first | apply Ω1_3 | apply Ω2_3 | apply Ω3_3)); exact Kd.R_mono HO_166001.out (fun _ hk => hk.2)⟩, ⟨by (with_reducible repeat (first | refine ΩA_3 ?_ _ | refine ΩC_3 ?_ | refine ΩB_3 ?_ _)); exact BK146.out⟩, ⟨by (with_reducible repeat (first | refine ΩA_3 ?_ _ | refine ΩC_3 ?_ | refine ΩB_3 ?_ _)); exact BK147.out⟩, ⟨by (with_reducible repeat (first | refine ΩA_3 ?_ _ | refine ΩC_3 ?_ | refine ΩB_3 ?_ _)); exact BK165.out⟩, ⟨by repeat (first | (with_reducible first | exact HB.out | apply Ω6_3 | apply Ω7_3 | apply Ω8_3 | refine Ω9_3 ?_ GE146.out | refine Ω9_3 ?_ GE147.out | refine Ω9_3 ?_ GE165.out) | exact HB.out)⟩⟩
             ·rw [if_neg c52] at H
              have c52b0 : decide (x13_3 < (x166001_3.length : Int)) = false := decide_eq_false c52
              clear c52
              simp only [Option.some.injEq, Prod.mk.injEq] at H
              obtain ⟨rfl, rfl⟩ := H
              have hnb117 := NB165_146.out;have hnc117 := NB146_165.out;have hnb118 := NB165_147.out;have hnc118 := NB147_165.out;have hcz119_0 : wr.cell? ⟨gb165, 0, none⟩ = some (u166000) := (blk_cell BK165.out 0).trans rfl;have hcz119_1 : wr.cell? ⟨gb165, 1, none⟩ = some (u166001) := (blk_cell BK165.out 1).trans rfl;have hfz119_0 := blk_frozen BK165.out 0;have hfz119_1 := blk_frozen BK165.out 1
              obtain ⟨Ao120, co120, eo120⟩ := Kd.R_slice HO_166001.out
              subst eo120
              obtain ⟨Ao121, co121, eo121⟩ := Kd.R_slice HO_166000.out
              subst eo121
              have hnb122 := NB147_146.out;have hnc122 := NB146_147.out;have hcz123_0 : wr.cell? ⟨gb147, 0, none⟩ = some (.slice none 0 0) := (blk_cell BK147.out 0).trans rfl;have hcz123_1 : wr.cell? ⟨gb147, 1, none⟩ = some (.slice none 0 0) := (blk_cell BK147.out 1).trans rfl;have hfz123_0 := blk_frozen BK147.out 0;have hfz123_1 := blk_frozen BK147.out 1
              go_wp2
              refine bodyPost_ret (results_cell_row rfl _ _ gb147 56 #[.slice Ao121 x166000_3.length co121, .slice Ao120 x166001_3.length co120] (0, 0) _ rfl (by (with_reducible repeat (first | refine ΩA_3 ?_ _ | refine ΩC_3 ?_ | refine ΩB_3 ?_ _)); refine blk_put (cs := #[.slice Ao121 x166000_3.length co121, .slice none 0 0]) ?_ 1 _ rfl; (with_reducible repeat (first | refine ΩA_3 ?_ _ | refine ΩC_3 ?_ | refine ΩB_3 ?_ _)); refine blk_put (cs := #[.slice none 0 0, .slice none 0 0]) ?_ 0 _ rfl; (with_reducible repeat (first | refine ΩA_3 ?_ _ | refine ΩC_3 ?_ | refine ΩB_3 ?_ _)); exact BK147.out) Try.underlying56 rfl (by kernel_rfl)) rfl ?_
              exact ⟨_, _, by first | rfl | (simp [errW_none, errW_some] <;> rfl) | (simp only [← hji21, ← hji25]; first | rfl | (simp [errW_none, errW_some] <;> rfl)) | (simp [*, errW_none, errW_some] <;> rfl), by (with_reducible repeat (first | apply Ω1_3 | apply Ω2_3 | apply Ω3_3)); exact Kd.R_mono (Kd.R_far (p := ⟨gb147, 1, none⟩) (Kd.R_far (p := ⟨gb147, 0, none⟩) (Kd.R_types HO_166000.out BK147.out (by decide)) (fun _ hk => hk.2) (.slice Ao121 x166000_3.length co121)) (fun _ hk => hk.2) (.slice Ao120 x166001_3.length co120)) (fun _ hk => hk.1), by (with_reducible repeat (first | apply Ω1_3 | apply Ω2_3 | apply Ω3_3)); exact Kd.R_mono (Kd.R_far (p := ⟨gb147, 1, none⟩) (Kd.R_far (p := ⟨gb147, 0, none⟩) (Kd.R_types HO_166001.out BK147.out (by decide)) (fun _ hk => hk.2) (.slice Ao121 x166000_3.length co121)) (fun _ hk => hk.2) (.slice Ao120 x166001_3.length co120)) (fun _ hk => hk.1), by repeat (first | (with_reducible first | exact HB.out | apply Ω6_3 | apply Ω7_3 | apply Ω8_3 | refine Ω9_3 ?_ GE146.out | refine Ω9_3 ?_ GE147.out | refine Ω9_3 ?_ GE165.out) | exact HB.out)⟩
       ·rw [if_neg c27] at H
        exact absurd H (by simp)
      ·rw [if_neg c26] at H
       exact absurd H (by simp)
     ·rw [if_neg c23] at H
      exact absurd H (by simp)
    ·rw [if_neg c22] at H
     exact absurd H (by simp)

end Go.Proofs.Ytkgknnhecbbfgab.PFnExactMaxPool
