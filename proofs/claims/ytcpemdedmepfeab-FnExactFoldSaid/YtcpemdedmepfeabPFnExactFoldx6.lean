-- Printed out of the translation, hand-written contracts beside it; checked by the kernel alone.
import Derived.Test.YtcpemdedmepfeabPFnExactFoldx0
import Derived.Test.YtcpemdedmepfeabPFnExactFoldx5
namespace Go.Proofs.Ytcpemdedmepfeab.PFnExactFold
open Go.RowKit Go.Proofs.YtcpemdedmepfeabW.PrintWords Go.Proofs.YtcpemdedmepfeabW.PrintLast Go.Proofs.YtcpemdedmepfeabW.PrintMore
attribute [local go_sem] max2_int min2_int max_two min_two max_three min_three max_four min_four   -- for this text's walks alone
set_option linter.unusedVariables false
set_option linter.unusedSimpArgs false
abbrev T6_ : Bool := true
abbrev F6_ : Bool := false

/-! ### impl_foldPairs: function 68 -/
mutual
def impl_foldPairs.j0 : Nat → List Int → Int → Int → Int → Int → Bool → Option (List Int × (List (S113)) × Bool)
 | 0, _, _, _, _, _, _ => none
 | k + 1, x0, x1, x2, x3, x11, x68 => if x68 = true then (some (([] : List Int), ([] : List (S113)), false)) else ((impl_with.f x0 x1 x3).bind fun t229 => (if 0 ≤ x11 then (if x11 ≤ (t229.length : Int) then ((some (t229.take (x11 : Int).toNat : List Int)).bind fun y232 => ((impl_DimsOk.f k y232).bind fun t235 => (if t235 = true then (if 0 ≤ x1 then (if x1 < (x0.length : Int) then (if (rd x0 x1) = 1 then (impl_foldPairs.j1 k x0 x1 0 x3 x11 y232) else (impl_foldPairs.j1 k x0 x1 x2 x3 x11 y232)) else (none)) else (none)) else (some (([] : List Int), ([] : List (S113)), false))))) else (none)) else (none)))
def impl_foldPairs.j1 : Nat → List Int → Int → Int → Int → Int → List Int → Option (List Int × (List (S113)) × Bool)
 | 0, _, _, _, _, _, _ => none
 | k + 1, x0, x1, x2, x3, x11, x12 => if 0 ≤ x11 then (if x11 ≤ (x0.length : Int) then ((impl_lines.f k (x0.take (x11 : Int).toNat) x1).bind fun bt238 => (impl_foldPairs.l0 k x0 x2 x3 x11 x12 bt238.1 bt238.2.1 bt238.2.2 (([] : List (S113))) 0)) else (none)) else (none)
def impl_foldPairs.l0 : Nat → List Int → Int → Int → Int → List Int → Int → Int → Int → List (S113) → Int → Option (List Int × (List (S113)) × Bool)
 | 0, _, _, _, _, _, _, _, _, _, _ => none
 | k + 1, x0, x2, x3, x11, x12, x13, x14, x15, x16, x17 => if x17 < x13 then (impl_foldPairs.l1 k x0 x2 x3 x11 x12 x13 x14 x15 x16 x17 0) else (some (x12, x16, true))
def impl_foldPairs.l1 : Nat → List Int → Int → Int → Int → List Int → Int → Int → Int → List (S113) → Int → Int → Option (List Int × (List (S113)) × Bool)
 | 0, _, _, _, _, _, _, _, _, _, _, _ => none
 | k + 1, x0, x2, x3, x11, x12, x13, x14, x15, x16, x17, x18 => if x18 < x14 then (impl_foldPairs.l2 k x0 x2 x3 x11 x12 x13 x14 x15 x16 x17 x18 0) else (impl_foldPairs.l0 k x0 x2 x3 x11 x12 x13 x14 x15 x16 (wrap64 (x17 + 1)))
def impl_foldPairs.l2 : Nat → List Int → Int → Int → Int → List Int → Int → Int → Int → List (S113) → Int → Int → Int → Option (List Int × (List (S113)) × Bool)
 | 0, _, _, _, _, _, _, _, _, _, _, _, _ => none
 | k + 1, x0, x2, x3, x11, x12, x13, x14, x15, x16, x17, x18, x19 => if x19 < x15 then (impl_foldPairs.l3 k x0 x2 x3 x11 x12 x13 x14 x15 x16 x17 x18 x19 0) else (impl_foldPairs.l1 k x0 x2 x3 x11 x12 x13 x14 x15 x16 x17 (wrap64 (x18 + 1)))
def impl_foldPairs.l3 : Nat → List Int → Int → Int → Int → List Int → Int → Int → Int → List (S113) → Int → Int → Int → Int → Option (List Int × (List (S113)) × Bool)
 | 0, _, _, _, _, _, _, _, _, _, _, _, _, _ => none
 | k + 1, x0, x2, x3, x11, x12, x13, x14, x15, x16, x17, x18, x19, x20 => if 0 ≤ x11 then (if x11 < (x0.length : Int) then (if x20 < (rd x0 x11) then (if x16.length < 8796093022208 then (impl_foldPairs.l3 k x0 x2 x3 x11 x12 x13 x14 x15 (x16 ++ [(⟨wrap64 ((wrap64 ((wrap64 ((wrap64 ((wrap64 ((wrap64 (x17 * x14)) + x18)) * x15)) + x19)) * (rd x0 x11))) + x20), wrap64 ((wrap64 ((wrap64 ((wrap64 ((wrap64 (x17 * x3)) + (wrap64 (x18 * x2)))) + x20)) * x15)) + x19)⟩ : S113)]) x17 x18 x19 (wrap64 (x20 + 1))) else (none)) else (impl_foldPairs.l2 k x0 x2 x3 x11 x12 x13 x14 x15 x16 x17 x18 (wrap64 (x19 + 1)))) else (none)) else (none)
end
def impl_foldPairs.f (k : Nat) (l0 : List Int) (a1 : Int) (a2 : Int) (a3 : Int) : Option (List Int × (List (S113)) × Bool) := (impl_isAxis.f l0 a1).bind fun t225 => (if t225 = true then (if a1 = (wrap64 ((l0.length : Int) - 1)) then (impl_foldPairs.j0 k l0 a1 a2 a3 (wrap64 ((l0.length : Int) - 1)) true) else (if a2 < 1 then (impl_foldPairs.j0 k l0 a1 a2 a3 (wrap64 ((l0.length : Int) - 1)) true) else (if a3 < 1 then (impl_foldPairs.j0 k l0 a1 a2 a3 (wrap64 ((l0.length : Int) - 1)) true) else (if a3 > 4096 then (impl_foldPairs.j0 k l0 a1 a2 a3 (wrap64 ((l0.length : Int) - 1)) true) else (if 0 ≤ (wrap64 ((l0.length : Int) - 1)) then (if (wrap64 ((l0.length : Int) - 1)) < (l0.length : Int) then (if (rd l0 (wrap64 ((l0.length : Int) - 1))) > a3 then (impl_foldPairs.j0 k l0 a1 a2 a3 (wrap64 ((l0.length : Int) - 1)) true) else (if 0 ≤ a1 then (if a1 < (l0.length : Int) then (if a2 = 0 then (none) else (impl_foldPairs.j0 k l0 a1 a2 a3 (wrap64 ((l0.length : Int) - 1)) ((rd l0 a1) != (wrap64 ((wrap64 (Int.tdiv (wrap64 (a3 - (rd l0 (wrap64 ((l0.length : Int) - 1))))) a2)) + 1))))) else (none)) else (none))) else (none)) else (none)))))) else (impl_foldPairs.j0 k l0 a1 a2 a3 (wrap64 ((l0.length : Int) - 1)) true))
theorem impl_foldPairs.mono_l : ∀ k, (∀ y0 y1 y2 y3 y4 y5, LeO (impl_foldPairs.j0 k y0 y1 y2 y3 y4 y5) (impl_foldPairs.j0 (k + 1) y0 y1 y2 y3 y4 y5)) ∧ (∀ y0 y1 y2 y3 y4 y5, LeO (impl_foldPairs.j1 k y0 y1 y2 y3 y4 y5) (impl_foldPairs.j1 (k + 1) y0 y1 y2 y3 y4 y5)) ∧ (∀ y0 y1 y2 y3 y4 y5 y6 y7 y8 y9, LeO (impl_foldPairs.l0 k y0 y1 y2 y3 y4 y5 y6 y7 y8 y9) (impl_foldPairs.l0 (k + 1) y0 y1 y2 y3 y4 y5 y6 y7 y8 y9)) ∧ (∀ y0 y1 y2 y3 y4 y5 y6 y7 y8 y9 y10, LeO (impl_foldPairs.l1 k y0 y1 y2 y3 y4 y5 y6 y7 y8 y9 y10) (impl_foldPairs.l1 (k + 1) y0 y1 y2 y3 y4 y5 y6 y7 y8 y9 y10)) ∧ (∀ y0 y1 y2 y3 y4 y5 y6 y7 y8 y9 y10 y11, LeO (impl_foldPairs.l2 k y0 y1 y2 y3 y4 y5 y6 y7 y8 y9 y10 y11) (impl_foldPairs.l2 (k + 1) y0 y1 y2 y3 y4 y5 y6 y7 y8 y9 y10 y11)) ∧ (∀ y0 y1 y2 y3 y4 y5 y6 y7 y8 y9 y10 y11 y12, LeO (impl_foldPairs.l3 k y0 y1 y2 y3 y4 y5 y6 y7 y8 y9 y10 y11 y12) (impl_foldPairs.l3 (k + 1) y0 y1 y2 y3 y4 y5 y6 y7 y8 y9 y10 y11 y12))
 | 0 => ⟨fun _ _ _ _ _ _ r h => by simp [impl_foldPairs.j0] at h, fun _ _ _ _ _ _ r h => by simp [impl_foldPairs.j1] at h, fun _ _ _ _ _ _ _ _ _ _ r h => by simp [impl_foldPairs.l0] at h, fun _ _ _ _ _ _ _ _ _ _ _ r h => by simp [impl_foldPairs.l1] at h, fun _ _ _ _ _ _ _ _ _ _ _ _ r h => by simp [impl_foldPairs.l2] at h, fun _ _ _ _ _ _ _ _ _ _ _ _ _ r h => by simp [impl_foldPairs.l3] at h⟩
 | k + 1 => by
  obtain ⟨ih0, ih1, ih2, ih3, ih4, ih5⟩ := impl_foldPairs.mono_l k
  refine ⟨?_, ?_, ?_, ?_, ?_, ?_⟩
  ·intro y0 y1 y2 y3 y4 y5
   unfold impl_foldPairs.j0
   repeat' first
   | (with_reducible exact ih0 _ _ _ _ _ _)
   | (with_reducible exact ih1 _ _ _ _ _ _)
   | (with_reducible exact ih2 _ _ _ _ _ _ _ _ _ _)
   | (with_reducible exact ih3 _ _ _ _ _ _ _ _ _ _ _)
   | (with_reducible exact ih4 _ _ _ _ _ _ _ _ _ _ _ _)
   | (with_reducible exact ih5 _ _ _ _ _ _ _ _ _ _ _ _ _)
   | (with_reducible exact impl_DimsOk.mono _ _)
   | (with_reducible exact impl_lines.mono _ _ _)
   | (with_reducible exact LeO.refl _)
   | (with_reducible exact LeO.none _)
   | (with_reducible refine LeO.ite ?_ ?_)
   | (with_reducible refine LeO.bind ?_ (fun _ => ?_))
   | exact ih0 _ _ _ _ _ _
   | exact ih1 _ _ _ _ _ _
   | exact ih2 _ _ _ _ _ _ _ _ _ _
   | exact ih3 _ _ _ _ _ _ _ _ _ _ _
   | exact ih4 _ _ _ _ _ _ _ _ _ _ _ _
   | exact ih5 _ _ _ _ _ _ _ _ _ _ _ _ _
   | exact impl_DimsOk.mono _ _
   | exact impl_lines.mono _ _ _
   | exact LeO.none _
   | refine LeO.ite ?_ ?_
   | refine LeO.bind ?_ (fun _ => ?_)
  ·intro y0 y1 y2 y3 y4 y5
   unfold impl_foldPairs.j1
   repeat' first
   | (with_reducible exact ih0 _ _ _ _ _ _)
   | (with_reducible exact ih1 _ _ _ _ _ _)
   | (with_reducible exact ih2 _ _ _ _ _ _ _ _ _ _)
   | (with_reducible exact ih3 _ _ _ _ _ _ _ _ _ _ _)
   | (with_reducible exact ih4 _ _ _ _ _ _ _ _ _ _ _ _)
   | (with_reducible exact ih5 _ _ _ _ _ _ _ _ _ _ _ _ _)
   | (with_reducible exact impl_DimsOk.mono _ _)
   | (with_reducible exact impl_lines.mono _ _ _)
   | (with_reducible exact LeO.refl _)
   | (with_reducible exact LeO.none _)
   | (with_reducible refine LeO.ite ?_ ?_)
   | (with_reducible refine LeO.bind ?_ (fun _ => ?_))
   | exact ih0 _ _ _ _ _ _
   | exact ih1 _ _ _ _ _ _
   | exact ih2 _ _ _ _ _ _ _ _ _ _
   | exact ih3 _ _ _ _ _ _ _ _ _ _ _
   | exact ih4 _ _ _ _ _ _ _ _ _ _ _ _
   | exact ih5 _ _ _ _ _ _ _ _ _ _ _ _ _
   | exact impl_DimsOk.mono _ _
   | exact impl_lines.mono _ _ _
   | exact LeO.none _
   | refine LeO.ite ?_ ?_
   | refine LeO.bind ?_ (fun _ => ?_)
  ·intro y0 y1 y2 y3 y4 y5 y6 y7 y8 y9
   unfold impl_foldPairs.l0
   repeat' first
   | (with_reducible exact ih0 _ _ _ _ _ _)
   | (with_reducible exact ih1 _ _ _ _ _ _)
   | (with_reducible exact ih2 _ _ _ _ _ _ _ _ _ _)
   | (with_reducible exact ih3 _ _ _ _ _ _ _ _ _ _ _)
   | (with_reducible exact ih4 _ _ _ _ _ _ _ _ _ _ _ _)
   | (with_reducible exact ih5 _ _ _ _ _ _ _ _ _ _ _ _ _)
   | (with_reducible exact impl_DimsOk.mono _ _)
   | (with_reducible exact impl_lines.mono _ _ _)
   | (with_reducible exact LeO.refl _)
   | (with_reducible exact LeO.none _)
   | (with_reducible refine LeO.ite ?_ ?_)
   | (with_reducible refine LeO.bind ?_ (fun _ => ?_))
   | exact ih0 _ _ _ _ _ _
   | exact ih1 _ _ _ _ _ _
   | exact ih2 _ _ _ _ _ _ _ _ _ _
   | exact ih3 _ _ _ _ _ _ _ _ _ _ _
   | exact ih4 _ _ _ _ _ _ _ _ _ _ _ _
   | exact ih5 _ _ _ _ _ _ _ _ _ _ _ _ _
   | exact impl_DimsOk.mono _ _
   | exact impl_lines.mono _ _ _
   | exact LeO.none _
   | refine LeO.ite ?_ ?_
   | refine LeO.bind ?_ (fun _ => ?_)
  ·intro y0 y1 y2 y3 y4 y5 y6 y7 y8 y9 y10
   unfold impl_foldPairs.l1
   repeat' first
   | (with_reducible exact ih0 _ _ _ _ _ _)
   | (with_reducible exact ih1 _ _ _ _ _ _)
   | (with_reducible exact ih2 _ _ _ _ _ _ _ _ _ _)
   | (with_reducible exact ih3 _ _ _ _ _ _ _ _ _ _ _)
   | (with_reducible exact ih4 _ _ _ _ _ _ _ _ _ _ _ _)
   | (with_reducible exact ih5 _ _ _ _ _ _ _ _ _ _ _ _ _)
   | (with_reducible exact impl_DimsOk.mono _ _)
   | (with_reducible exact impl_lines.mono _ _ _)
   | (with_reducible exact LeO.refl _)
   | (with_reducible exact LeO.none _)
   | (with_reducible refine LeO.ite ?_ ?_)
   | (with_reducible refine LeO.bind ?_ (fun _ => ?_))
   | exact ih0 _ _ _ _ _ _
   | exact ih1 _ _ _ _ _ _
   | exact ih2 _ _ _ _ _ _ _ _ _ _
   | exact ih3 _ _ _ _ _ _ _ _ _ _ _
   | exact ih4 _ _ _ _ _ _ _ _ _ _ _ _
   | exact ih5 _ _ _ _ _ _ _ _ _ _ _ _ _
   | exact impl_DimsOk.mono _ _
   | exact impl_lines.mono _ _ _
   | exact LeO.none _
   | refine LeO.ite ?_ ?_
   | refine LeO.bind ?_ (fun _ => ?_)
  ·intro y0 y1 y2 y3 y4 y5 y6 y7 y8 y9 y10 y11
   unfold impl_foldPairs.l2
   repeat' first
   | (with_reducible exact ih0 _ _ _ _ _ _)
   | (with_reducible exact ih1 _ _ _ _ _ _)
   | (with_reducible exact ih2 _ _ _ _ _ _ _ _ _ _)
   | (with_reducible exact ih3 _ _ _ _ _ _ _ _ _ _ _)
   | (with_reducible exact ih4 _ _ _ _ _ _ _ _ _ _ _ _)
   | (with_reducible exact ih5 _ _ _ _ _ _ _ _ _ _ _ _ _)
   | (with_reducible exact impl_DimsOk.mono _ _)
   | (with_reducible exact impl_lines.mono _ _ _)
   | (with_reducible exact LeO.refl _)
   | (with_reducible exact LeO.none _)
   | (with_reducible refine LeO.ite ?_ ?_)
   | (with_reducible refine LeO.bind ?_ (fun _ => ?_))
   | exact ih0 _ _ _ _ _ _
   | exact ih1 _ _ _ _ _ _
   | exact ih2 _ _ _ _ _ _ _ _ _ _
   | exact ih3 _ _ _ _ _ _ _ _ _ _ _
   | exact ih4 _ _ _ _ _ _ _ _ _ _ _ _
   | exact ih5 _ _ _ _ _ _ _ _ _ _ _ _ _
   | exact impl_DimsOk.mono _ _
   | exact impl_lines.mono _ _ _
   | exact LeO.none _
   | refine LeO.ite ?_ ?_
   | refine LeO.bind ?_ (fun _ => ?_)
  ·intro y0 y1 y2 y3 y4 y5 y6 y7 y8 y9 y10 y11 y12
   unfold impl_foldPairs.l3
   repeat' first
   | (with_reducible exact ih0 _ _ _ _ _ _)
   | (with_reducible exact ih1 _ _ _ _ _ _)
   | (with_reducible exact ih2 _ _ _ _ _ _ _ _ _ _)
   | (with_reducible exact ih3 _ _ _ _ _ _ _ _ _ _ _)
   | (with_reducible exact ih4 _ _ _ _ _ _ _ _ _ _ _ _)
   | (with_reducible exact ih5 _ _ _ _ _ _ _ _ _ _ _ _ _)
   | (with_reducible exact impl_DimsOk.mono _ _)
   | (with_reducible exact impl_lines.mono _ _ _)
   | (with_reducible exact LeO.refl _)
   | (with_reducible exact LeO.none _)
   | (with_reducible refine LeO.ite ?_ ?_)
   | (with_reducible refine LeO.bind ?_ (fun _ => ?_))
   | exact ih0 _ _ _ _ _ _
   | exact ih1 _ _ _ _ _ _
   | exact ih2 _ _ _ _ _ _ _ _ _ _
   | exact ih3 _ _ _ _ _ _ _ _ _ _ _
   | exact ih4 _ _ _ _ _ _ _ _ _ _ _ _
   | exact ih5 _ _ _ _ _ _ _ _ _ _ _ _ _
   | exact impl_DimsOk.mono _ _
   | exact impl_lines.mono _ _ _
   | exact LeO.none _
   | refine LeO.ite ?_ ?_
   | refine LeO.bind ?_ (fun _ => ?_)
theorem impl_foldPairs.mono : ∀ a0 a1 a2 a3 k, LeO (impl_foldPairs.f k a0 a1 a2 a3) (impl_foldPairs.f (k + 1) a0 a1 a2 a3) := by
 intro a0 a1 a2 a3 k
 obtain ⟨ih0, ih1, ih2, ih3, ih4, ih5⟩ := impl_foldPairs.mono_l k
 unfold impl_foldPairs.f
 repeat' first
   | (with_reducible exact ih0 _ _ _ _ _ _)
   | (with_reducible exact ih1 _ _ _ _ _ _)
   | (with_reducible exact ih2 _ _ _ _ _ _ _ _ _ _)
   | (with_reducible exact ih3 _ _ _ _ _ _ _ _ _ _ _)
   | (with_reducible exact ih4 _ _ _ _ _ _ _ _ _ _ _ _)
   | (with_reducible exact ih5 _ _ _ _ _ _ _ _ _ _ _ _ _)
   | (with_reducible exact impl_DimsOk.mono _ _)
   | (with_reducible exact impl_lines.mono _ _ _)
   | (with_reducible exact LeO.refl _)
   | (with_reducible exact LeO.none _)
   | (with_reducible refine LeO.ite ?_ ?_)
   | (with_reducible refine LeO.bind ?_ (fun _ => ?_))
   | exact ih0 _ _ _ _ _ _
   | exact ih1 _ _ _ _ _ _
   | exact ih2 _ _ _ _ _ _ _ _ _ _
   | exact ih3 _ _ _ _ _ _ _ _ _ _ _
   | exact ih4 _ _ _ _ _ _ _ _ _ _ _ _
   | exact ih5 _ _ _ _ _ _ _ _ _ _ _ _ _
   | exact impl_DimsOk.mono _ _
   | exact impl_lines.mono _ _ _
   | exact LeO.none _
   | refine LeO.ite ?_ ?_
   | refine LeO.bind ?_ (fun _ => ?_)
def impl_foldPairs.T2 : Bool × List (List Nat × List Nat) := (true, [([], []), ([], []), ([0, 1], [0, 1]), ([2], [2]), ([3, 2], [3]), ([4], [4]), ([4], [4]), ([5, 6, 4], [4, 5, 6]), ([4, 7], [4, 7]), ([8, 4], [8]), ([9], [9]), ([10, 9], [9, 10]), ([9, 11], [9, 11]), ([12, 9], [12]), ([13], [13]), ([14, 13], [13, 14]), ([13, 15], [13, 15]), ([16, 13], [16]), ([17], [17]), ([18, 17], [17, 18]), ([17, 19], [17, 19]), ([20, 17], [20]), ([21], [21]), ([21], [21]), ([22, 23, 21], [21, 22, 23]), ([24, 21], [21, 24]), ([21], [21]), ([25, 26, 21], [21, 25, 26]), ([21, 27], [21, 27]), ([28, 21], [28]), ([29], [29]), ([29], [29]), ([30, 31, 29], [29, 30, 31]), ([32, 29], [29, 32]), ([29], [29]), ([29], [29]), ([29], [29]), ([35, 36, 29], [29, 35, 36]), ([37, 29], [29, 37]), ([34, 38, 29], [29, 34, 38]), ([29], [29]), ([39, 40, 29], [29, 39, 40]), ([41, 29], [29, 41]), ([33, 42, 29], [29, 33, 42]), ([29, 43], [29, 43])])
def impl_foldPairs.B2 : List Nat := [0, 0, 3, 7, 15, 31, 31, 127, 255, 511, 1023, 2047, 4095, 8191, 16383, 32767, 65535, 131071, 262143, 524287, 1048575, 2097151, 4194303, 4194303, 16777215, 33554431, 4194303, 134217727, 268435455, 536870911, 1073741823, 1073741823, 4294967295, 8589934591, 1073741823, 1073741823, 1073741823, 104152956927, 241591910399, 533649686527, 1073741823, 2182917128191, 4381940383743, 8796093022207, 17592186044415]
theorem impl_foldPairs.tab2 : rtab .any (opsOf Try.f68 2) = impl_foldPairs.T2 := by kernel_rfl
theorem impl_foldPairs.bits2 : waitsOk impl_foldPairs.T2.2 impl_foldPairs.B2 = true := by kernel_rfl
set_option maxHeartbeats 8000000 in
set_option maxRecDepth 100000 in
theorem impl_foldPairs.calls (k : Nat) (A0 : Option Addr) (c0 : Nat) (l0 : List Int) (a1 : Int) (a2 : Int) (a3 : Int) (r1 : List Int) (r2 : List (S113)) (r3 : Bool) (w : World) (hr0 : Kd.C (Kd.int .i64) w A0 l0.length l0) (hc0 : l0.length ≤ c0) (h : impl_foldPairs.f k l0 a1 a2 a3 = some (r1, r2, r3)) :
  Calls Try.prog 68 #[.slice A0 l0.length c0, .int .i64 a1, .int .i64 a2, .int .i64 a3] w fun e w' => ∃ v0_ v1_ : Value, e = .returned (.tuple #[v0_, v1_, .bool r3]) ∧ Kd.R (Kd.int .i64) 3 w' w.heap.size (fun _ => True) v0_ r1 ∧ Kd.R k113 113 w' w.heap.size (fun _ => True) v1_ r2 ∧ Below w.heap.size w w' := by
 have hu113 := Try.underlying113
 have HR0 := Aside0.mk hr0
 have HC0 := Aside0.mk hc0
 clear hr0 hc0
 have HB := Aside0.mk (Below.refl w.heap.size w)
 have H : ((impl_isAxis.f l0 a1).bind fun t225 => (if t225 = true then (if a1 = (wrap64 ((l0.length : Int) - 1)) then (impl_foldPairs.j0 k l0 a1 a2 a3 (wrap64 ((l0.length : Int) - 1)) true) else (if a2 < 1 then (impl_foldPairs.j0 k l0 a1 a2 a3 (wrap64 ((l0.length : Int) - 1)) true) else (if a3 < 1 then (impl_foldPairs.j0 k l0 a1 a2 a3 (wrap64 ((l0.length : Int) - 1)) true) else (if a3 > 4096 then (impl_foldPairs.j0 k l0 a1 a2 a3 (wrap64 ((l0.length : Int) - 1)) true) else (if 0 ≤ (wrap64 ((l0.length : Int) - 1)) then (if (wrap64 ((l0.length : Int) - 1)) < (l0.length : Int) then (if (rd l0 (wrap64 ((l0.length : Int) - 1))) > a3 then (impl_foldPairs.j0 k l0 a1 a2 a3 (wrap64 ((l0.length : Int) - 1)) true) else (if 0 ≤ a1 then (if a1 < (l0.length : Int) then (if a2 = 0 then (none) else (impl_foldPairs.j0 k l0 a1 a2 a3 (wrap64 ((l0.length : Int) - 1)) ((rd l0 a1) != (wrap64 ((wrap64 (Int.tdiv (wrap64 (a3 - (rd l0 (wrap64 ((l0.length : Int) - 1))))) a2)) + 1))))) else (none)) else (none))) else (none)) else (none)))))) else (impl_foldPairs.j0 k l0 a1 a2 a3 (wrap64 ((l0.length : Int) - 1)) true))) = some (r1, r2, r3) := h
 clear h
 have HC5 := Aside0.mk H
 clear H
 go_enter Try.func68, Try.ntmps68
 go_upto_region 2 with (fail)
 go_cut [68] (fun v68 wc => ∃ (kq : Nat) (x68_4 : Bool), v68 = .bool x68_4 ∧ Aside0 (impl_foldPairs.j0 kq l0 a1 a2 a3 (wrap64 ((l0.length : Int) - 1)) x68_4 = some (r1, r2, r3)) ∧ Aside0 (kq ≤ k) ∧ Aside0 (Below w.heap.size w wc))
 case first =>
  have H := HC5.out
  clear HC5
  replace H := Option.bind_eq_some_iff.mp H
  obtain ⟨t225, A60, H⟩ := H
  replace H : (if t225 = true then (if a1 = (wrap64 ((l0.length : Int) - 1)) then (impl_foldPairs.j0 k l0 a1 a2 a3 (wrap64 ((l0.length : Int) - 1)) true) else (if a2 < 1 then (impl_foldPairs.j0 k l0 a1 a2 a3 (wrap64 ((l0.length : Int) - 1)) true) else (if a3 < 1 then (impl_foldPairs.j0 k l0 a1 a2 a3 (wrap64 ((l0.length : Int) - 1)) true) else (if a3 > 4096 then (impl_foldPairs.j0 k l0 a1 a2 a3 (wrap64 ((l0.length : Int) - 1)) true) else (if 0 ≤ (wrap64 ((l0.length : Int) - 1)) then (if (wrap64 ((l0.length : Int) - 1)) < (l0.length : Int) then (if (rd l0 (wrap64 ((l0.length : Int) - 1))) > a3 then (impl_foldPairs.j0 k l0 a1 a2 a3 (wrap64 ((l0.length : Int) - 1)) true) else (if 0 ≤ a1 then (if a1 < (l0.length : Int) then (if a2 = 0 then (none) else (impl_foldPairs.j0 k l0 a1 a2 a3 (wrap64 ((l0.length : Int) - 1)) ((rd l0 a1) != (wrap64 ((wrap64 (Int.tdiv (wrap64 (a3 - (rd l0 (wrap64 ((l0.length : Int) - 1))))) a2)) + 1))))) else (none)) else (none))) else (none)) else (none)))))) else (impl_foldPairs.j0 k l0 a1 a2 a3 (wrap64 ((l0.length : Int) - 1)) true)) = some (r1, r2, r3) := H
  have A6 := Aside0.mk A60
  clear A60
  by_cases c7 : t225 = true
  ·subst c7
   have H1 : (if a1 = (wrap64 ((l0.length : Int) - 1)) then (impl_foldPairs.j0 k l0 a1 a2 a3 (wrap64 ((l0.length : Int) - 1)) true) else (if a2 < 1 then (impl_foldPairs.j0 k l0 a1 a2 a3 (wrap64 ((l0.length : Int) - 1)) true) else (if a3 < 1 then (impl_foldPairs.j0 k l0 a1 a2 a3 (wrap64 ((l0.length : Int) - 1)) true) else (if a3 > 4096 then (impl_foldPairs.j0 k l0 a1 a2 a3 (wrap64 ((l0.length : Int) - 1)) true) else (if 0 ≤ (wrap64 ((l0.length : Int) - 1)) then (if (wrap64 ((l0.length : Int) - 1)) < (l0.length : Int) then (if (rd l0 (wrap64 ((l0.length : Int) - 1))) > a3 then (impl_foldPairs.j0 k l0 a1 a2 a3 (wrap64 ((l0.length : Int) - 1)) true) else (if 0 ≤ a1 then (if a1 < (l0.length : Int) then (if a2 = 0 then (none) else (impl_foldPairs.j0 k l0 a1 a2 a3 (wrap64 ((l0.length : Int) - 1)) ((rd l0 a1) != (wrap64 ((wrap64 (Int.tdiv (wrap64 (a3 - (rd l0 (wrap64 ((l0.length : Int) - 1))))) a2)) + 1))))) else (none)) else (none))) else (none)) else (none)))))) = some (r1, r2, r3) := by rw [if_pos rfl] at H; exact H
   clear H
   have H := H1
   clear H1
   by_cases c8 : a1 = (wrap64 ((l0.length : Int) - 1))
   ·rw [if_pos c8] at H
    have c8b0 : (a1 == (wrap64 ((l0.length : Int) - 1))) = true := beq_iff_eq.mpr c8
    have c8b1 : (a1 != (wrap64 ((l0.length : Int) - 1))) = false := bne_eq_false_iff_eq.mpr c8
    clear c8
    (first | rw [c8b0] | (simp only [i64_w, i32_w]; rw [c8b0]) | skip)
    have H' := Aside0.mk H
    clear H
    try go_wp2
    replace HB := Aside0.mk (below_drew1 HB.out)
    refine start_ (n := 45) (S := fun w' => True) (ds := []) #[F6_,F6_,F6_,F6_,F6_,F6_,F6_,F6_,F6_,F6_,F6_,F6_,F6_,F6_,F6_,F6_,F6_,F6_,F6_,F6_,F6_,F6_,F6_,F6_,F6_,F6_,F6_,F6_,F6_,F6_,F6_,F6_,F6_,F6_,F6_,F6_,F6_,F6_,F6_,F6_,F6_,F6_,F6_,F6_,F6_] (by kernel_rfl) rfl rfl trivial (fun hHeld => ?_); refine with_tabW impl_foldPairs.tab2 impl_foldPairs.bits2 (fun HT_ HW_ => ?_)
    generalize w.drew = w9 at HB hHeld ⊢
    refine pure_ (i := 0) (N := some 24) (v := ?_) (a' := ?_) #[T6_,F6_,F6_,F6_,F6_,F6_,F6_,F6_,F6_,F6_,F6_,F6_,F6_,F6_,F6_,F6_,F6_,F6_,F6_,F6_,F6_,F6_,F6_,F6_,F6_,F6_,F6_,F6_,F6_,F6_,F6_,F6_,F6_,F6_,F6_,F6_,F6_,F6_,F6_,F6_,F6_,F6_,F6_,F6_,F6_] rfl rfl (any_of HT_.out (by kernel_rfl)) (fun _ _ _ h => h) (Or.inl ⟨by rfl, ?_⟩) ?_ ?_
    rotate_left
    ·intro w'
     go_simp
     with_reducible rfl
    rotate_left
    ·simp only [Act.put, List.setIfInBounds_toArray, List.set_cons_zero, List.set_cons_succ, i64_w, i32_w]
     rfl
    refine pure_ (i := 1) (N := some 25) (v := ?_) (a' := ?_) #[T6_,T6_,F6_,F6_,F6_,F6_,F6_,F6_,F6_,F6_,F6_,F6_,F6_,F6_,F6_,F6_,F6_,F6_,F6_,F6_,F6_,F6_,F6_,F6_,F6_,F6_,F6_,F6_,F6_,F6_,F6_,F6_,F6_,F6_,F6_,F6_,F6_,F6_,F6_,F6_,F6_,F6_,F6_,F6_,F6_] rfl rfl (any_of HT_.out (by kernel_rfl)) (fun _ _ _ h => h) (Or.inl ⟨by rfl, ?_⟩) ?_ ?_
    rotate_left
    ·intro w'
     go_simp
     with_reducible rfl
    rotate_left
    ·simp only [Act.put, List.setIfInBounds_toArray, List.set_cons_zero, List.set_cons_succ, i64_w, i32_w]
     rfl
    refine one_ (i := 2) (N := some 26) #[T6_,T6_,T6_,F6_,F6_,F6_,F6_,F6_,F6_,F6_,F6_,F6_,F6_,F6_,F6_,F6_,F6_,F6_,F6_,F6_,F6_,F6_,F6_,F6_,F6_,F6_,F6_,F6_,F6_,F6_,F6_,F6_,F6_,F6_,F6_,F6_,F6_,F6_,F6_,F6_,F6_,F6_,F6_,F6_,F6_] rfl rfl (one_of HT_.out (by kernel_rfl)) (by decide) (fun K hK => ?_)
    refine goes_ Try.func78 (by kernel_rfl) rfl #[.slice A0 l0.length c0, .int .i64 a1] (by rfl) rfl rfl (by (try simp only [List.map_toArray, List.map_cons, List.map_nil]); first | done | rfl | (simp only [List.length_drop, List.length_take]; rfl)) ?_
    with_reducible refine (impl_isAxis.calls _ _ l0 a1 true _ ?side1 ?side2 A6.out).mono ?_
    (case side1 => exact (Cu ((Kd.C_below HR0.out HB.out))))
    (case side2 => exact HC0.out)
    rintro e w' ⟨rfl, ⟨nd, rfl⟩⟩
    refine ⟨_, rfl, ?_⟩
    refine hK.out _ _ trivial (fun hHeld => ?_)
    clear hK K
    refine norm_ (a' := ?_) ?_ ?_
    rotate_left
    ·show Act.put _ (some 26) _ = _
     simp only [Act.put, List.setIfInBounds_toArray, List.set_cons_zero, List.set_cons_succ, i64_w, i32_w]
     rfl
    refine pure_ (i := 3) (N := some 27) (v := ?_) (a' := ?_) #[T6_,T6_,T6_,T6_,F6_,F6_,F6_,F6_,F6_,F6_,F6_,F6_,F6_,F6_,F6_,F6_,F6_,F6_,F6_,F6_,F6_,F6_,F6_,F6_,F6_,F6_,F6_,F6_,F6_,F6_,F6_,F6_,F6_,F6_,F6_,F6_,F6_,F6_,F6_,F6_,F6_,F6_,F6_,F6_,F6_] rfl rfl (any_of HT_.out (by kernel_rfl)) (fun _ _ _ h => h) (Or.inl ⟨by rfl, ?_⟩) ?_ ?_
    rotate_left
    ·intro w'
     go_simp
     with_reducible rfl
    rotate_left
    ·simp only [Act.put, List.setIfInBounds_toArray, List.set_cons_zero, List.set_cons_succ, i64_w, i32_w]
     rfl
    refine pure_ (i := 4) (N := some 28) (v := ?_) (a' := ?_) #[T6_,T6_,T6_,T6_,T6_,F6_,F6_,F6_,F6_,F6_,F6_,F6_,F6_,F6_,F6_,F6_,F6_,F6_,F6_,F6_,F6_,F6_,F6_,F6_,F6_,F6_,F6_,F6_,F6_,F6_,F6_,F6_,F6_,F6_,F6_,F6_,F6_,F6_,F6_,F6_,F6_,F6_,F6_,F6_,F6_] rfl rfl (any_of HT_.out (by kernel_rfl)) (fun _ _ _ h => h) (Or.inl ⟨by rfl, ?_⟩) ?_ ?_
    rotate_left
    ·intro w'
     go_simp
     with_reducible rfl
    rotate_left
    ·simp only [Act.put, List.setIfInBounds_toArray, List.set_cons_zero, List.set_cons_succ, i64_w, i32_w]
     rfl
    refine pure_ (i := 5) (N := some 29) (v := ?_) (a' := ?_) #[T6_,T6_,T6_,T6_,T6_,T6_,F6_,F6_,F6_,F6_,F6_,F6_,F6_,F6_,F6_,F6_,F6_,F6_,F6_,F6_,F6_,F6_,F6_,F6_,F6_,F6_,F6_,F6_,F6_,F6_,F6_,F6_,F6_,F6_,F6_,F6_,F6_,F6_,F6_,F6_,F6_,F6_,F6_,F6_,F6_] rfl rfl (any_of HT_.out (by kernel_rfl)) (fun _ _ _ h => h) (Or.inl ⟨by rfl, ?_⟩) ?_ ?_
    rotate_left
    ·intro w'
     go_simp
     with_reducible rfl
    rotate_left
    ·simp only [Act.put, List.setIfInBounds_toArray, List.set_cons_zero, List.set_cons_succ, i64_w, i32_w]
     rfl
    refine pure_ (i := 6) (N := some 30) (v := ?_) (a' := ?_) #[T6_,T6_,T6_,T6_,T6_,T6_,T6_,F6_,F6_,F6_,F6_,F6_,F6_,F6_,F6_,F6_,F6_,F6_,F6_,F6_,F6_,F6_,F6_,F6_,F6_,F6_,F6_,F6_,F6_,F6_,F6_,F6_,F6_,F6_,F6_,F6_,F6_,F6_,F6_,F6_,F6_,F6_,F6_,F6_,F6_] rfl rfl (any_of HT_.out (by kernel_rfl)) (fun _ _ _ h => h) (Or.inl ⟨by rfl, ?_⟩) ?_ ?_
    rotate_left
    ·intro w'
     go_simp
     with_reducible rfl
    rotate_left
    ·simp only [Act.put, List.setIfInBounds_toArray, List.set_cons_zero, List.set_cons_succ, i64_w, i32_w]
     rfl
    refine pure_ (i := 7) (N := some 31) (v := ?_) (a' := ?_) #[T6_,T6_,T6_,T6_,T6_,T6_,T6_,T6_,F6_,F6_,F6_,F6_,F6_,F6_,F6_,F6_,F6_,F6_,F6_,F6_,F6_,F6_,F6_,F6_,F6_,F6_,F6_,F6_,F6_,F6_,F6_,F6_,F6_,F6_,F6_,F6_,F6_,F6_,F6_,F6_,F6_,F6_,F6_,F6_,F6_] rfl rfl (any_of HT_.out (by kernel_rfl)) (fun _ _ _ h => h) (Or.inl ⟨by rfl, ?_⟩) ?_ ?_
    rotate_left
    ·intro w'
     go_simp
     with_reducible rfl
    rotate_left
    ·simp only [Act.put, List.setIfInBounds_toArray, List.set_cons_zero, List.set_cons_succ, i64_w, i32_w]
     rfl
    refine pure_ (i := 8) (N := some 32) (v := ?_) (a' := ?_) #[T6_,T6_,T6_,T6_,T6_,T6_,T6_,T6_,T6_,F6_,F6_,F6_,F6_,F6_,F6_,F6_,F6_,F6_,F6_,F6_,F6_,F6_,F6_,F6_,F6_,F6_,F6_,F6_,F6_,F6_,F6_,F6_,F6_,F6_,F6_,F6_,F6_,F6_,F6_,F6_,F6_,F6_,F6_,F6_,F6_] rfl rfl (any_of HT_.out (by kernel_rfl)) (fun _ _ _ h => h) (Or.inl ⟨by rfl, ?_⟩) ?_ ?_
    rotate_left
    ·intro w'
     go_simp
     with_reducible rfl
    rotate_left
    ·simp only [Act.put, List.setIfInBounds_toArray, List.set_cons_zero, List.set_cons_succ, i64_w, i32_w]
     rfl
    refine pure_ (i := 9) (N := some 33) (v := ?_) (a' := ?_) #[T6_,T6_,T6_,T6_,T6_,T6_,T6_,T6_,T6_,T6_,F6_,F6_,F6_,F6_,F6_,F6_,F6_,F6_,F6_,F6_,F6_,F6_,F6_,F6_,F6_,F6_,F6_,F6_,F6_,F6_,F6_,F6_,F6_,F6_,F6_,F6_,F6_,F6_,F6_,F6_,F6_,F6_,F6_,F6_,F6_] rfl rfl (any_of HT_.out (by kernel_rfl)) (fun _ _ _ h => h) (Or.inl ⟨by rfl, ?_⟩) ?_ ?_
    rotate_left
    ·intro w'
     go_simp
     with_reducible rfl
    rotate_left
    ·simp only [Act.put, List.setIfInBounds_toArray, List.set_cons_zero, List.set_cons_succ, i64_w, i32_w]
     rfl
    refine pure_ (i := 10) (N := some 34) (v := undef) (a' := ?_) #[T6_,T6_,T6_,T6_,T6_,T6_,T6_,T6_,T6_,T6_,T6_,F6_,F6_,F6_,F6_,F6_,F6_,F6_,F6_,F6_,F6_,F6_,F6_,F6_,F6_,F6_,F6_,F6_,F6_,F6_,F6_,F6_,F6_,F6_,F6_,F6_,F6_,F6_,F6_,F6_,F6_,F6_,F6_,F6_,F6_] rfl rfl (any_of HT_.out (by kernel_rfl)) (fun _ _ _ h => h) (Or.inr ⟨by rfl, rfl⟩) ?_ ?_
    rotate_left
    ·simp only [Act.put, List.setIfInBounds_toArray, List.set_cons_zero, List.set_cons_succ, i64_w, i32_w]
     rfl
    refine pure_ (i := 11) (N := some 35) (v := undef) (a' := ?_) #[T6_,T6_,T6_,T6_,T6_,T6_,T6_,T6_,T6_,T6_,T6_,T6_,F6_,F6_,F6_,F6_,F6_,F6_,F6_,F6_,F6_,F6_,F6_,F6_,F6_,F6_,F6_,F6_,F6_,F6_,F6_,F6_,F6_,F6_,F6_,F6_,F6_,F6_,F6_,F6_,F6_,F6_,F6_,F6_,F6_] rfl rfl (any_of HT_.out (by kernel_rfl)) (fun _ _ _ h => h) (Or.inr ⟨by rfl, rfl⟩) ?_ ?_
    rotate_left
    ·simp only [Act.put, List.setIfInBounds_toArray, List.set_cons_zero, List.set_cons_succ, i64_w, i32_w]
     rfl
    refine pure_ (i := 12) (N := some 36) (v := ?_) (a' := ?_) #[T6_,T6_,T6_,T6_,T6_,T6_,T6_,T6_,T6_,T6_,T6_,T6_,T6_,F6_,F6_,F6_,F6_,F6_,F6_,F6_,F6_,F6_,F6_,F6_,F6_,F6_,F6_,F6_,F6_,F6_,F6_,F6_,F6_,F6_,F6_,F6_,F6_,F6_,F6_,F6_,F6_,F6_,F6_,F6_,F6_] rfl rfl (any_of HT_.out (by kernel_rfl)) (fun _ _ _ h => h) (Or.inl ⟨by rfl, ?_⟩) ?_ ?_
    rotate_left
    ·intro w'
     go_simp
     with_reducible rfl
    rotate_left
    ·simp only [Act.put, List.setIfInBounds_toArray, List.set_cons_zero, List.set_cons_succ, i64_w, i32_w]
     rfl
    refine pure_ (i := 13) (N := some 37) (v := ?_) (a' := ?_) #[T6_,T6_,T6_,T6_,T6_,T6_,T6_,T6_,T6_,T6_,T6_,T6_,T6_,T6_,F6_,F6_,F6_,F6_,F6_,F6_,F6_,F6_,F6_,F6_,F6_,F6_,F6_,F6_,F6_,F6_,F6_,F6_,F6_,F6_,F6_,F6_,F6_,F6_,F6_,F6_,F6_,F6_,F6_,F6_,F6_] rfl rfl (any_of HT_.out (by kernel_rfl)) (fun _ _ _ h => h) (Or.inl ⟨by rfl, ?_⟩) ?_ ?_
    rotate_left
    ·intro w'
     go_simp
     with_reducible rfl
    rotate_left
    ·simp only [Act.put, List.setIfInBounds_toArray, List.set_cons_zero, List.set_cons_succ, i64_w, i32_w]
     rfl
    refine pure_ (i := 14) (N := some 38) (v := undef) (a' := ?_) #[T6_,T6_,T6_,T6_,T6_,T6_,T6_,T6_,T6_,T6_,T6_,T6_,T6_,T6_,T6_,F6_,F6_,F6_,F6_,F6_,F6_,F6_,F6_,F6_,F6_,F6_,F6_,F6_,F6_,F6_,F6_,F6_,F6_,F6_,F6_,F6_,F6_,F6_,F6_,F6_,F6_,F6_,F6_,F6_,F6_] rfl rfl (any_of HT_.out (by kernel_rfl)) (fun _ _ _ h => h) (Or.inr ⟨by rfl, rfl⟩) ?_ ?_
    rotate_left
    ·simp only [Act.put, List.setIfInBounds_toArray, List.set_cons_zero, List.set_cons_succ, i64_w, i32_w]
     rfl
    refine pure_ (i := 15) (N := some 39) (v := undef) (a' := ?_) #[T6_,T6_,T6_,T6_,T6_,T6_,T6_,T6_,T6_,T6_,T6_,T6_,T6_,T6_,T6_,T6_,F6_,F6_,F6_,F6_,F6_,F6_,F6_,F6_,F6_,F6_,F6_,F6_,F6_,F6_,F6_,F6_,F6_,F6_,F6_,F6_,F6_,F6_,F6_,F6_,F6_,F6_,F6_,F6_,F6_] rfl rfl (any_of HT_.out (by kernel_rfl)) (fun _ _ _ h => h) (Or.inr ⟨by rfl, rfl⟩) ?_ ?_
    rotate_left
    ·simp only [Act.put, List.setIfInBounds_toArray, List.set_cons_zero, List.set_cons_succ, i64_w, i32_w]
     rfl
    refine pure_ (i := 16) (N := some 40) (v := ?_) (a' := ?_) #[T6_,T6_,T6_,T6_,T6_,T6_,T6_,T6_,T6_,T6_,T6_,T6_,T6_,T6_,T6_,T6_,T6_,F6_,F6_,F6_,F6_,F6_,F6_,F6_,F6_,F6_,F6_,F6_,F6_,F6_,F6_,F6_,F6_,F6_,F6_,F6_,F6_,F6_,F6_,F6_,F6_,F6_,F6_,F6_,F6_] rfl rfl (any_of HT_.out (by kernel_rfl)) (fun _ _ _ h => h) (Or.inl ⟨by rfl, ?_⟩) ?_ ?_
    rotate_left
    ·intro w'
     go_simp
     with_reducible rfl
    rotate_left
    ·simp only [Act.put, List.setIfInBounds_toArray, List.set_cons_zero, List.set_cons_succ, i64_w, i32_w]
     rfl
    refine pure_ (i := 17) (N := some 41) (v := ?_) (a' := ?_) #[T6_,T6_,T6_,T6_,T6_,T6_,T6_,T6_,T6_,T6_,T6_,T6_,T6_,T6_,T6_,T6_,T6_,T6_,F6_,F6_,F6_,F6_,F6_,F6_,F6_,F6_,F6_,F6_,F6_,F6_,F6_,F6_,F6_,F6_,F6_,F6_,F6_,F6_,F6_,F6_,F6_,F6_,F6_,F6_,F6_] rfl rfl (any_of HT_.out (by kernel_rfl)) (fun _ _ _ h => h) (Or.inl ⟨by rfl, ?_⟩) ?_ ?_
    rotate_left
    ·intro w'
     go_simp
     with_reducible rfl
    rotate_left
    ·simp only [Act.put, List.setIfInBounds_toArray, List.set_cons_zero, List.set_cons_succ, i64_w, i32_w]
     rfl
    refine pure_ (i := 18) (N := some 42) (v := undef) (a' := ?_) #[T6_,T6_,T6_,T6_,T6_,T6_,T6_,T6_,T6_,T6_,T6_,T6_,T6_,T6_,T6_,T6_,T6_,T6_,T6_,F6_,F6_,F6_,F6_,F6_,F6_,F6_,F6_,F6_,F6_,F6_,F6_,F6_,F6_,F6_,F6_,F6_,F6_,F6_,F6_,F6_,F6_,F6_,F6_,F6_,F6_] rfl rfl (any_of HT_.out (by kernel_rfl)) (fun _ _ _ h => h) (Or.inr ⟨by rfl, rfl⟩) ?_ ?_
    rotate_left
    ·simp only [Act.put, List.setIfInBounds_toArray, List.set_cons_zero, List.set_cons_succ, i64_w, i32_w]
     rfl
    refine pure_ (i := 19) (N := some 43) (v := undef) (a' := ?_) #[T6_,T6_,T6_,T6_,T6_,T6_,T6_,T6_,T6_,T6_,T6_,T6_,T6_,T6_,T6_,T6_,T6_,T6_,T6_,T6_,F6_,F6_,F6_,F6_,F6_,F6_,F6_,F6_,F6_,F6_,F6_,F6_,F6_,F6_,F6_,F6_,F6_,F6_,F6_,F6_,F6_,F6_,F6_,F6_,F6_] rfl rfl (any_of HT_.out (by kernel_rfl)) (fun _ _ _ h => h) (Or.inr ⟨by rfl, rfl⟩) ?_ ?_
    rotate_left
    ·simp only [Act.put, List.setIfInBounds_toArray, List.set_cons_zero, List.set_cons_succ, i64_w, i32_w]
     rfl
    refine pure_ (i := 20) (N := some 44) (v := ?_) (a' := ?_) #[T6_,T6_,T6_,T6_,T6_,T6_,T6_,T6_,T6_,T6_,T6_,T6_,T6_,T6_,T6_,T6_,T6_,T6_,T6_,T6_,T6_,F6_,F6_,F6_,F6_,F6_,F6_,F6_,F6_,F6_,F6_,F6_,F6_,F6_,F6_,F6_,F6_,F6_,F6_,F6_,F6_,F6_,F6_,F6_,F6_] rfl rfl (any_of HT_.out (by kernel_rfl)) (fun _ _ _ h => h) (Or.inl ⟨by rfl, ?_⟩) ?_ ?_
    rotate_left
    ·intro w'
     go_simp
     with_reducible rfl
    rotate_left
    ·simp only [Act.put, List.setIfInBounds_toArray, List.set_cons_zero, List.set_cons_succ, i64_w, i32_w]
     rfl
    refine pure_ (i := 21) (N := some 45) (v := ?_) (a' := ?_) #[T6_,T6_,T6_,T6_,T6_,T6_,T6_,T6_,T6_,T6_,T6_,T6_,T6_,T6_,T6_,T6_,T6_,T6_,T6_,T6_,T6_,T6_,F6_,F6_,F6_,F6_,F6_,F6_,F6_,F6_,F6_,F6_,F6_,F6_,F6_,F6_,F6_,F6_,F6_,F6_,F6_,F6_,F6_,F6_,F6_] rfl rfl (any_of HT_.out (by kernel_rfl)) (fun _ _ _ h => h) (Or.inl ⟨by rfl, ?_⟩) ?_ ?_
    rotate_left
    ·intro w'
     go_simp
     with_reducible rfl
    rotate_left
    ·simp only [Act.put, List.setIfInBounds_toArray, List.set_cons_zero, List.set_cons_succ, i64_w, i32_w]
     rfl
    refine pure_ (i := 22) (N := some 46) (v := undef) (a' := ?_) #[T6_,T6_,T6_,T6_,T6_,T6_,T6_,T6_,T6_,T6_,T6_,T6_,T6_,T6_,T6_,T6_,T6_,T6_,T6_,T6_,T6_,T6_,T6_,F6_,F6_,F6_,F6_,F6_,F6_,F6_,F6_,F6_,F6_,F6_,F6_,F6_,F6_,F6_,F6_,F6_,F6_,F6_,F6_,F6_,F6_] rfl rfl (any_of HT_.out (by kernel_rfl)) (fun _ _ _ h => h) (Or.inr ⟨by rfl, rfl⟩) ?_ ?_
    rotate_left
    ·simp only [Act.put, List.setIfInBounds_toArray, List.set_cons_zero, List.set_cons_succ, i64_w, i32_w]
     rfl
    refine pure_ (i := 23) (N := some 47) (v := undef) (a' := ?_) #[T6_,T6_,T6_,T6_,T6_,T6_,T6_,T6_,T6_,T6_,T6_,T6_,T6_,T6_,T6_,T6_,T6_,T6_,T6_,T6_,T6_,T6_,T6_,T6_,F6_,F6_,F6_,F6_,F6_,F6_,F6_,F6_,F6_,F6_,F6_,F6_,F6_,F6_,F6_,F6_,F6_,F6_,F6_,F6_,F6_] rfl rfl (any_of HT_.out (by kernel_rfl)) (fun _ _ _ h => h) (Or.inr ⟨by rfl, rfl⟩) ?_ ?_
    rotate_left
    ·simp only [Act.put, List.setIfInBounds_toArray, List.set_cons_zero, List.set_cons_succ, i64_w, i32_w]
     rfl
    refine pure_ (i := 24) (N := some 48) (v := undef) (a' := ?_) #[T6_,T6_,T6_,T6_,T6_,T6_,T6_,T6_,T6_,T6_,T6_,T6_,T6_,T6_,T6_,T6_,T6_,T6_,T6_,T6_,T6_,T6_,T6_,T6_,T6_,F6_,F6_,F6_,F6_,F6_,F6_,F6_,F6_,F6_,F6_,F6_,F6_,F6_,F6_,F6_,F6_,F6_,F6_,F6_,F6_] rfl rfl (any_of HT_.out (by kernel_rfl)) (fun _ _ _ h => h) (Or.inr ⟨by rfl, rfl⟩) ?_ ?_
    rotate_left
    ·simp only [Act.put, List.setIfInBounds_toArray, List.set_cons_zero, List.set_cons_succ, i64_w, i32_w]
     rfl
    refine pure_ (i := 25) (N := some 49) (v := undef) (a' := ?_) #[T6_,T6_,T6_,T6_,T6_,T6_,T6_,T6_,T6_,T6_,T6_,T6_,T6_,T6_,T6_,T6_,T6_,T6_,T6_,T6_,T6_,T6_,T6_,T6_,T6_,T6_,F6_,F6_,F6_,F6_,F6_,F6_,F6_,F6_,F6_,F6_,F6_,F6_,F6_,F6_,F6_,F6_,F6_,F6_,F6_] rfl rfl (any_of HT_.out (by kernel_rfl)) (fun _ _ _ h => h) (Or.inr ⟨by rfl, rfl⟩) ?_ ?_
    rotate_left
    ·simp only [Act.put, List.setIfInBounds_toArray, List.set_cons_zero, List.set_cons_succ, i64_w, i32_w]
     rfl
    refine pure_ (i := 26) (N := some 50) (v := undef) (a' := ?_) #[T6_,T6_,T6_,T6_,T6_,T6_,T6_,T6_,T6_,T6_,T6_,T6_,T6_,T6_,T6_,T6_,T6_,T6_,T6_,T6_,T6_,T6_,T6_,T6_,T6_,T6_,T6_,F6_,F6_,F6_,F6_,F6_,F6_,F6_,F6_,F6_,F6_,F6_,F6_,F6_,F6_,F6_,F6_,F6_,F6_] rfl rfl (any_of HT_.out (by kernel_rfl)) (fun _ _ _ h => h) (Or.inr ⟨by rfl, rfl⟩) ?_ ?_
    rotate_left
    ·simp only [Act.put, List.setIfInBounds_toArray, List.set_cons_zero, List.set_cons_succ, i64_w, i32_w]
     rfl
    refine pure_ (i := 27) (N := some 51) (v := undef) (a' := ?_) #[T6_,T6_,T6_,T6_,T6_,T6_,T6_,T6_,T6_,T6_,T6_,T6_,T6_,T6_,T6_,T6_,T6_,T6_,T6_,T6_,T6_,T6_,T6_,T6_,T6_,T6_,T6_,T6_,F6_,F6_,F6_,F6_,F6_,F6_,F6_,F6_,F6_,F6_,F6_,F6_,F6_,F6_,F6_,F6_,F6_] rfl rfl (any_of HT_.out (by kernel_rfl)) (fun _ _ _ h => h) (Or.inr ⟨by rfl, rfl⟩) ?_ ?_
    rotate_left
    ·simp only [Act.put, List.setIfInBounds_toArray, List.set_cons_zero, List.set_cons_succ, i64_w, i32_w]
     rfl
    refine pure_ (i := 28) (N := some 52) (v := ?_) (a' := ?_) #[T6_,T6_,T6_,T6_,T6_,T6_,T6_,T6_,T6_,T6_,T6_,T6_,T6_,T6_,T6_,T6_,T6_,T6_,T6_,T6_,T6_,T6_,T6_,T6_,T6_,T6_,T6_,T6_,T6_,F6_,F6_,F6_,F6_,F6_,F6_,F6_,F6_,F6_,F6_,F6_,F6_,F6_,F6_,F6_,F6_] rfl rfl (any_of HT_.out (by kernel_rfl)) (fun _ _ _ h => h) (Or.inl ⟨by rfl, ?_⟩) ?_ ?_
    rotate_left
    ·intro w'
     go_simp
     with_reducible rfl
    rotate_left
    ·simp only [Act.put, List.setIfInBounds_toArray, List.set_cons_zero, List.set_cons_succ, i64_w, i32_w]
     rfl
    refine pure_ (i := 29) (N := some 53) (v := ?_) (a' := ?_) #[T6_,T6_,T6_,T6_,T6_,T6_,T6_,T6_,T6_,T6_,T6_,T6_,T6_,T6_,T6_,T6_,T6_,T6_,T6_,T6_,T6_,T6_,T6_,T6_,T6_,T6_,T6_,T6_,T6_,T6_,F6_,F6_,F6_,F6_,F6_,F6_,F6_,F6_,F6_,F6_,F6_,F6_,F6_,F6_,F6_] rfl rfl (any_of HT_.out (by kernel_rfl)) (fun _ _ _ h => h) (Or.inl ⟨by rfl, ?_⟩) ?_ ?_
    rotate_left
    ·intro w'
     go_simp
     with_reducible rfl
    rotate_left
    ·simp only [Act.put, List.setIfInBounds_toArray, List.set_cons_zero, List.set_cons_succ, i64_w, i32_w]
     rfl
    refine pure_ (i := 30) (N := some 54) (v := undef) (a' := ?_) #[T6_,T6_,T6_,T6_,T6_,T6_,T6_,T6_,T6_,T6_,T6_,T6_,T6_,T6_,T6_,T6_,T6_,T6_,T6_,T6_,T6_,T6_,T6_,T6_,T6_,T6_,T6_,T6_,T6_,T6_,T6_,F6_,F6_,F6_,F6_,F6_,F6_,F6_,F6_,F6_,F6_,F6_,F6_,F6_,F6_] rfl rfl (any_of HT_.out (by kernel_rfl)) (fun _ _ _ h => h) (Or.inr ⟨by rfl, rfl⟩) ?_ ?_
    rotate_left
    ·simp only [Act.put, List.setIfInBounds_toArray, List.set_cons_zero, List.set_cons_succ, i64_w, i32_w]
     rfl
    refine pure_ (i := 31) (N := some 55) (v := undef) (a' := ?_) #[T6_,T6_,T6_,T6_,T6_,T6_,T6_,T6_,T6_,T6_,T6_,T6_,T6_,T6_,T6_,T6_,T6_,T6_,T6_,T6_,T6_,T6_,T6_,T6_,T6_,T6_,T6_,T6_,T6_,T6_,T6_,T6_,F6_,F6_,F6_,F6_,F6_,F6_,F6_,F6_,F6_,F6_,F6_,F6_,F6_] rfl rfl (any_of HT_.out (by kernel_rfl)) (fun _ _ _ h => h) (Or.inr ⟨by rfl, rfl⟩) ?_ ?_
    rotate_left
    ·simp only [Act.put, List.setIfInBounds_toArray, List.set_cons_zero, List.set_cons_succ, i64_w, i32_w]
     rfl
    refine pure_ (i := 32) (N := some 56) (v := undef) (a' := ?_) #[T6_,T6_,T6_,T6_,T6_,T6_,T6_,T6_,T6_,T6_,T6_,T6_,T6_,T6_,T6_,T6_,T6_,T6_,T6_,T6_,T6_,T6_,T6_,T6_,T6_,T6_,T6_,T6_,T6_,T6_,T6_,T6_,T6_,F6_,F6_,F6_,F6_,F6_,F6_,F6_,F6_,F6_,F6_,F6_,F6_] rfl rfl (any_of HT_.out (by kernel_rfl)) (fun _ _ _ h => h) (Or.inr ⟨by rfl, rfl⟩) ?_ ?_
    rotate_left
    ·simp only [Act.put, List.setIfInBounds_toArray, List.set_cons_zero, List.set_cons_succ, i64_w, i32_w]
     rfl
    refine pure_ (i := 33) (N := some 57) (v := undef) (a' := ?_) #[T6_,T6_,T6_,T6_,T6_,T6_,T6_,T6_,T6_,T6_,T6_,T6_,T6_,T6_,T6_,T6_,T6_,T6_,T6_,T6_,T6_,T6_,T6_,T6_,T6_,T6_,T6_,T6_,T6_,T6_,T6_,T6_,T6_,T6_,F6_,F6_,F6_,F6_,F6_,F6_,F6_,F6_,F6_,F6_,F6_] rfl rfl (any_of HT_.out (by kernel_rfl)) (fun _ _ _ h => h) (Or.inr ⟨by rfl, rfl⟩) ?_ ?_
    rotate_left
    ·simp only [Act.put, List.setIfInBounds_toArray, List.set_cons_zero, List.set_cons_succ, i64_w, i32_w]
     rfl
    refine pure_ (i := 34) (N := some 58) (v := undef) (a' := ?_) #[T6_,T6_,T6_,T6_,T6_,T6_,T6_,T6_,T6_,T6_,T6_,T6_,T6_,T6_,T6_,T6_,T6_,T6_,T6_,T6_,T6_,T6_,T6_,T6_,T6_,T6_,T6_,T6_,T6_,T6_,T6_,T6_,T6_,T6_,T6_,F6_,F6_,F6_,F6_,F6_,F6_,F6_,F6_,F6_,F6_] rfl rfl (any_of HT_.out (by kernel_rfl)) (fun _ _ _ h => h) (Or.inr ⟨by rfl, rfl⟩) ?_ ?_
    rotate_left
    ·simp only [Act.put, List.setIfInBounds_toArray, List.set_cons_zero, List.set_cons_succ, i64_w, i32_w]
     rfl
    refine pure_ (i := 35) (N := some 59) (v := undef) (a' := ?_) #[T6_,T6_,T6_,T6_,T6_,T6_,T6_,T6_,T6_,T6_,T6_,T6_,T6_,T6_,T6_,T6_,T6_,T6_,T6_,T6_,T6_,T6_,T6_,T6_,T6_,T6_,T6_,T6_,T6_,T6_,T6_,T6_,T6_,T6_,T6_,T6_,F6_,F6_,F6_,F6_,F6_,F6_,F6_,F6_,F6_] rfl rfl (any_of HT_.out (by kernel_rfl)) (fun _ _ _ h => h) (Or.inr ⟨by rfl, rfl⟩) ?_ ?_
    rotate_left
    ·simp only [Act.put, List.setIfInBounds_toArray, List.set_cons_zero, List.set_cons_succ, i64_w, i32_w]
     rfl
    refine pure_ (i := 36) (N := some 60) (v := undef) (a' := ?_) #[T6_,T6_,T6_,T6_,T6_,T6_,T6_,T6_,T6_,T6_,T6_,T6_,T6_,T6_,T6_,T6_,T6_,T6_,T6_,T6_,T6_,T6_,T6_,T6_,T6_,T6_,T6_,T6_,T6_,T6_,T6_,T6_,T6_,T6_,T6_,T6_,T6_,F6_,F6_,F6_,F6_,F6_,F6_,F6_,F6_] rfl rfl (any_of HT_.out (by kernel_rfl)) (fun _ _ _ h => h) (Or.inr ⟨by rfl, rfl⟩) ?_ ?_
    rotate_left
    ·simp only [Act.put, List.setIfInBounds_toArray, List.set_cons_zero, List.set_cons_succ, i64_w, i32_w]
     rfl
    refine pure_ (i := 37) (N := some 61) (v := undef) (a' := ?_) #[T6_,T6_,T6_,T6_,T6_,T6_,T6_,T6_,T6_,T6_,T6_,T6_,T6_,T6_,T6_,T6_,T6_,T6_,T6_,T6_,T6_,T6_,T6_,T6_,T6_,T6_,T6_,T6_,T6_,T6_,T6_,T6_,T6_,T6_,T6_,T6_,T6_,T6_,F6_,F6_,F6_,F6_,F6_,F6_,F6_] rfl rfl (any_of HT_.out (by kernel_rfl)) (fun _ _ _ h => h) (Or.inr ⟨by rfl, rfl⟩) ?_ ?_
    rotate_left
    ·simp only [Act.put, List.setIfInBounds_toArray, List.set_cons_zero, List.set_cons_succ, i64_w, i32_w]
     rfl
    refine pure_ (i := 38) (N := some 62) (v := undef) (a' := ?_) #[T6_,T6_,T6_,T6_,T6_,T6_,T6_,T6_,T6_,T6_,T6_,T6_,T6_,T6_,T6_,T6_,T6_,T6_,T6_,T6_,T6_,T6_,T6_,T6_,T6_,T6_,T6_,T6_,T6_,T6_,T6_,T6_,T6_,T6_,T6_,T6_,T6_,T6_,T6_,F6_,F6_,F6_,F6_,F6_,F6_] rfl rfl (any_of HT_.out (by kernel_rfl)) (fun _ _ _ h => h) (Or.inr ⟨by rfl, rfl⟩) ?_ ?_
    rotate_left
    ·simp only [Act.put, List.setIfInBounds_toArray, List.set_cons_zero, List.set_cons_succ, i64_w, i32_w]
     rfl
    refine pure_ (i := 39) (N := some 63) (v := undef) (a' := ?_) #[T6_,T6_,T6_,T6_,T6_,T6_,T6_,T6_,T6_,T6_,T6_,T6_,T6_,T6_,T6_,T6_,T6_,T6_,T6_,T6_,T6_,T6_,T6_,T6_,T6_,T6_,T6_,T6_,T6_,T6_,T6_,T6_,T6_,T6_,T6_,T6_,T6_,T6_,T6_,T6_,F6_,F6_,F6_,F6_,F6_] rfl rfl (any_of HT_.out (by kernel_rfl)) (fun _ _ _ h => h) (Or.inr ⟨by rfl, rfl⟩) ?_ ?_
    rotate_left
    ·simp only [Act.put, List.setIfInBounds_toArray, List.set_cons_zero, List.set_cons_succ, i64_w, i32_w]
     rfl
    refine pure_ (i := 40) (N := some 64) (v := undef) (a' := ?_) #[T6_,T6_,T6_,T6_,T6_,T6_,T6_,T6_,T6_,T6_,T6_,T6_,T6_,T6_,T6_,T6_,T6_,T6_,T6_,T6_,T6_,T6_,T6_,T6_,T6_,T6_,T6_,T6_,T6_,T6_,T6_,T6_,T6_,T6_,T6_,T6_,T6_,T6_,T6_,T6_,T6_,F6_,F6_,F6_,F6_] rfl rfl (any_of HT_.out (by kernel_rfl)) (fun _ _ _ h => h) (Or.inr ⟨by rfl, rfl⟩) ?_ ?_
    rotate_left
    ·simp only [Act.put, List.setIfInBounds_toArray, List.set_cons_zero, List.set_cons_succ, i64_w, i32_w]
     rfl
    refine pure_ (i := 41) (N := some 65) (v := undef) (a' := ?_) #[T6_,T6_,T6_,T6_,T6_,T6_,T6_,T6_,T6_,T6_,T6_,T6_,T6_,T6_,T6_,T6_,T6_,T6_,T6_,T6_,T6_,T6_,T6_,T6_,T6_,T6_,T6_,T6_,T6_,T6_,T6_,T6_,T6_,T6_,T6_,T6_,T6_,T6_,T6_,T6_,T6_,T6_,F6_,F6_,F6_] rfl rfl (any_of HT_.out (by kernel_rfl)) (fun _ _ _ h => h) (Or.inr ⟨by rfl, rfl⟩) ?_ ?_
    rotate_left
    ·simp only [Act.put, List.setIfInBounds_toArray, List.set_cons_zero, List.set_cons_succ, i64_w, i32_w]
     rfl
    refine pure_ (i := 42) (N := some 66) (v := undef) (a' := ?_) #[T6_,T6_,T6_,T6_,T6_,T6_,T6_,T6_,T6_,T6_,T6_,T6_,T6_,T6_,T6_,T6_,T6_,T6_,T6_,T6_,T6_,T6_,T6_,T6_,T6_,T6_,T6_,T6_,T6_,T6_,T6_,T6_,T6_,T6_,T6_,T6_,T6_,T6_,T6_,T6_,T6_,T6_,T6_,F6_,F6_] rfl rfl (any_of HT_.out (by kernel_rfl)) (fun _ _ _ h => h) (Or.inr ⟨by rfl, rfl⟩) ?_ ?_
    rotate_left
    ·simp only [Act.put, List.setIfInBounds_toArray, List.set_cons_zero, List.set_cons_succ, i64_w, i32_w]
     rfl
    refine pure_ (i := 43) (N := some 67) (v := undef) (a' := ?_) #[T6_,T6_,T6_,T6_,T6_,T6_,T6_,T6_,T6_,T6_,T6_,T6_,T6_,T6_,T6_,T6_,T6_,T6_,T6_,T6_,T6_,T6_,T6_,T6_,T6_,T6_,T6_,T6_,T6_,T6_,T6_,T6_,T6_,T6_,T6_,T6_,T6_,T6_,T6_,T6_,T6_,T6_,T6_,T6_,F6_] rfl rfl (any_of HT_.out (by kernel_rfl)) (fun _ _ _ h => h) (Or.inr ⟨by rfl, rfl⟩) ?_ ?_
    rotate_left
    ·simp only [Act.put, List.setIfInBounds_toArray, List.set_cons_zero, List.set_cons_succ, i64_w, i32_w]
     rfl
    refine pure_ (i := 44) (N := some 68) (v := ?_) (a' := ?_) #[T6_,T6_,T6_,T6_,T6_,T6_,T6_,T6_,T6_,T6_,T6_,T6_,T6_,T6_,T6_,T6_,T6_,T6_,T6_,T6_,T6_,T6_,T6_,T6_,T6_,T6_,T6_,T6_,T6_,T6_,T6_,T6_,T6_,T6_,T6_,T6_,T6_,T6_,T6_,T6_,T6_,T6_,T6_,T6_,T6_] rfl rfl (any_of HT_.out (by kernel_rfl)) (fun _ _ _ h => h) (Or.inl ⟨by rfl, ?_⟩) ?_ ?_
    rotate_left
    ·intro w'
     go_simp
     with_reducible rfl
    rotate_left
    ·simp only [Act.put, List.setIfInBounds_toArray, List.set_cons_zero, List.set_cons_succ, i64_w, i32_w]
     rfl
    refine done_ (done_of HT_.out (by kernel_rfl)) ?_
    try go_wp2
    go_meet
    case rel => exact ⟨_, (true), (by first | rfl | (simp; done) | (simp [*]; done)), H', ⟨by first | omega | exact Nat.le_refl _⟩, ⟨HBu HB.out⟩⟩
   ·rw [if_neg c8] at H
    have c8b0 : (a1 == (wrap64 ((l0.length : Int) - 1))) = false := beq_eq_false_iff_ne.mpr c8
    have c8b1 : (a1 != (wrap64 ((l0.length : Int) - 1))) = true := bne_iff_ne.mpr c8
    (first | rw [c8b0] | (simp only [i64_w, i32_w]; rw [c8b0]) | skip)
    by_cases c10 : a2 < 1
    ·rw [if_pos c10] at H
     have c10b0 : decide (a2 < 1) = true := decide_eq_true c10
     clear c10
     have H' := Aside0.mk H
     clear H
     try go_wp2
     replace HB := Aside0.mk (below_drew1 HB.out)
     refine start_ (n := 45) (S := fun w' => True) (ds := []) #[F6_,F6_,F6_,F6_,F6_,F6_,F6_,F6_,F6_,F6_,F6_,F6_,F6_,F6_,F6_,F6_,F6_,F6_,F6_,F6_,F6_,F6_,F6_,F6_,F6_,F6_,F6_,F6_,F6_,F6_,F6_,F6_,F6_,F6_,F6_,F6_,F6_,F6_,F6_,F6_,F6_,F6_,F6_,F6_,F6_] (by kernel_rfl) rfl rfl trivial (fun hHeld => ?_); refine with_tabW impl_foldPairs.tab2 impl_foldPairs.bits2 (fun HT_ HW_ => ?_)
     generalize w.drew = w11 at HB hHeld ⊢
     refine pure_ (i := 0) (N := some 24) (v := ?_) (a' := ?_) #[T6_,F6_,F6_,F6_,F6_,F6_,F6_,F6_,F6_,F6_,F6_,F6_,F6_,F6_,F6_,F6_,F6_,F6_,F6_,F6_,F6_,F6_,F6_,F6_,F6_,F6_,F6_,F6_,F6_,F6_,F6_,F6_,F6_,F6_,F6_,F6_,F6_,F6_,F6_,F6_,F6_,F6_,F6_,F6_,F6_] rfl rfl (any_of HT_.out (by kernel_rfl)) (fun _ _ _ h => h) (Or.inl ⟨by rfl, ?_⟩) ?_ ?_
     rotate_left
     ·intro w'
      go_simp
      with_reducible rfl
     rotate_left
     ·simp only [Act.put, List.setIfInBounds_toArray, List.set_cons_zero, List.set_cons_succ, i64_w, i32_w]
      rfl
     refine pure_ (i := 1) (N := some 25) (v := ?_) (a' := ?_) #[T6_,T6_,F6_,F6_,F6_,F6_,F6_,F6_,F6_,F6_,F6_,F6_,F6_,F6_,F6_,F6_,F6_,F6_,F6_,F6_,F6_,F6_,F6_,F6_,F6_,F6_,F6_,F6_,F6_,F6_,F6_,F6_,F6_,F6_,F6_,F6_,F6_,F6_,F6_,F6_,F6_,F6_,F6_,F6_,F6_] rfl rfl (any_of HT_.out (by kernel_rfl)) (fun _ _ _ h => h) (Or.inl ⟨by rfl, ?_⟩) ?_ ?_
     rotate_left
     ·intro w'
      go_simp
      with_reducible rfl
     rotate_left
     ·simp only [Act.put, List.setIfInBounds_toArray, List.set_cons_zero, List.set_cons_succ, i64_w, i32_w]
      rfl
     refine one_ (i := 2) (N := some 26) #[T6_,T6_,T6_,F6_,F6_,F6_,F6_,F6_,F6_,F6_,F6_,F6_,F6_,F6_,F6_,F6_,F6_,F6_,F6_,F6_,F6_,F6_,F6_,F6_,F6_,F6_,F6_,F6_,F6_,F6_,F6_,F6_,F6_,F6_,F6_,F6_,F6_,F6_,F6_,F6_,F6_,F6_,F6_,F6_,F6_] rfl rfl (one_of HT_.out (by kernel_rfl)) (by decide) (fun K hK => ?_)
     refine goes_ Try.func78 (by kernel_rfl) rfl #[.slice A0 l0.length c0, .int .i64 a1] (by rfl) rfl rfl (by (try simp only [List.map_toArray, List.map_cons, List.map_nil]); first | done | rfl | (simp only [List.length_drop, List.length_take]; rfl)) ?_
     with_reducible refine (impl_isAxis.calls _ _ l0 a1 true _ ?side1 ?side2 A6.out).mono ?_
     (case side1 => exact (Cu ((Kd.C_below HR0.out HB.out))))
     (case side2 => exact HC0.out)
     rintro e w' ⟨rfl, ⟨nd, rfl⟩⟩
     refine ⟨_, rfl, ?_⟩
     refine hK.out _ _ trivial (fun hHeld => ?_)
     clear hK K
     refine norm_ (a' := ?_) ?_ ?_
     rotate_left
     ·show Act.put _ (some 26) _ = _
      simp only [Act.put, List.setIfInBounds_toArray, List.set_cons_zero, List.set_cons_succ, i64_w, i32_w]
      rfl
     refine pure_ (i := 3) (N := some 27) (v := ?_) (a' := ?_) #[T6_,T6_,T6_,T6_,F6_,F6_,F6_,F6_,F6_,F6_,F6_,F6_,F6_,F6_,F6_,F6_,F6_,F6_,F6_,F6_,F6_,F6_,F6_,F6_,F6_,F6_,F6_,F6_,F6_,F6_,F6_,F6_,F6_,F6_,F6_,F6_,F6_,F6_,F6_,F6_,F6_,F6_,F6_,F6_,F6_] rfl rfl (any_of HT_.out (by kernel_rfl)) (fun _ _ _ h => h) (Or.inl ⟨by rfl, ?_⟩) ?_ ?_
     rotate_left
     ·intro w'
      go_simp
      with_reducible rfl
     rotate_left
     ·simp only [Act.put, List.setIfInBounds_toArray, List.set_cons_zero, List.set_cons_succ, i64_w, i32_w]
      rfl
     refine pure_ (i := 4) (N := some 28) (v := ?_) (a' := ?_) #[T6_,T6_,T6_,T6_,T6_,F6_,F6_,F6_,F6_,F6_,F6_,F6_,F6_,F6_,F6_,F6_,F6_,F6_,F6_,F6_,F6_,F6_,F6_,F6_,F6_,F6_,F6_,F6_,F6_,F6_,F6_,F6_,F6_,F6_,F6_,F6_,F6_,F6_,F6_,F6_,F6_,F6_,F6_,F6_,F6_] rfl rfl (any_of HT_.out (by kernel_rfl)) (fun _ _ _ h => h) (Or.inl ⟨by rfl, ?_⟩) ?_ ?_
     rotate_left
     ·intro w'
      go_simp
      with_reducible rfl
     rotate_left
     ·simp only [Act.put, List.setIfInBounds_toArray, List.set_cons_zero, List.set_cons_succ, i64_w, i32_w]
      rfl
     refine pure_ (i := 5) (N := some 29) (v := ?_) (a' := ?_) #[T6_,T6_,T6_,T6_,T6_,T6_,F6_,F6_,F6_,F6_,F6_,F6_,F6_,F6_,F6_,F6_,F6_,F6_,F6_,F6_,F6_,F6_,F6_,F6_,F6_,F6_,F6_,F6_,F6_,F6_,F6_,F6_,F6_,F6_,F6_,F6_,F6_,F6_,F6_,F6_,F6_,F6_,F6_,F6_,F6_] rfl rfl (any_of HT_.out (by kernel_rfl)) (fun _ _ _ h => h) (Or.inl ⟨by rfl, ?_⟩) ?_ ?_
     rotate_left
     ·intro w'
      go_simp
      with_reducible rfl
     rotate_left
     ·simp only [Act.put, List.setIfInBounds_toArray, List.set_cons_zero, List.set_cons_succ, i64_w, i32_w]
      rfl
     refine pure_ (i := 6) (N := some 30) (v := ?_) (a' := ?_) #[T6_,T6_,T6_,T6_,T6_,T6_,T6_,F6_,F6_,F6_,F6_,F6_,F6_,F6_,F6_,F6_,F6_,F6_,F6_,F6_,F6_,F6_,F6_,F6_,F6_,F6_,F6_,F6_,F6_,F6_,F6_,F6_,F6_,F6_,F6_,F6_,F6_,F6_,F6_,F6_,F6_,F6_,F6_,F6_,F6_] rfl rfl (any_of HT_.out (by kernel_rfl)) (fun _ _ _ h => h) (Or.inl ⟨by rfl, ?_⟩) ?_ ?_
     rotate_left
     ·intro w'
      go_simp
      with_reducible rfl
     rotate_left
     ·simp only [Act.put, List.setIfInBounds_toArray, List.set_cons_zero, List.set_cons_succ, i64_w, i32_w]
      rfl
     refine pure_ (i := 7) (N := some 31) (v := ?_) (a' := ?_) #[T6_,T6_,T6_,T6_,T6_,T6_,T6_,T6_,F6_,F6_,F6_,F6_,F6_,F6_,F6_,F6_,F6_,F6_,F6_,F6_,F6_,F6_,F6_,F6_,F6_,F6_,F6_,F6_,F6_,F6_,F6_,F6_,F6_,F6_,F6_,F6_,F6_,F6_,F6_,F6_,F6_,F6_,F6_,F6_,F6_] rfl rfl (any_of HT_.out (by kernel_rfl)) (fun _ _ _ h => h) (Or.inl ⟨by rfl, ?_⟩) ?_ ?_
     rotate_left
     ·intro w'
      go_simp
      with_reducible rfl
     rotate_left
     ·simp only [Act.put, List.setIfInBounds_toArray, List.set_cons_zero, List.set_cons_succ, i64_w, i32_w]
      rfl
     refine pure_ (i := 8) (N := some 32) (v := ?_) (a' := ?_) #[T6_,T6_,T6_,T6_,T6_,T6_,T6_,T6_,T6_,F6_,F6_,F6_,F6_,F6_,F6_,F6_,F6_,F6_,F6_,F6_,F6_,F6_,F6_,F6_,F6_,F6_,F6_,F6_,F6_,F6_,F6_,F6_,F6_,F6_,F6_,F6_,F6_,F6_,F6_,F6_,F6_,F6_,F6_,F6_,F6_] rfl rfl (any_of HT_.out (by kernel_rfl)) (fun _ _ _ h => h) (Or.inl ⟨by rfl, ?_⟩) ?_ ?_
     rotate_left
     ·intro w'
      go_simp
      with_reducible rfl
     rotate_left
     ·simp only [Act.put, List.setIfInBounds_toArray, List.set_cons_zero, List.set_cons_succ, i64_w, i32_w]
      rfl
     refine pure_ (i := 9) (N := some 33) (v := ?_) (a' := ?_) #[T6_,T6_,T6_,T6_,T6_,T6_,T6_,T6_,T6_,T6_,F6_,F6_,F6_,F6_,F6_,F6_,F6_,F6_,F6_,F6_,F6_,F6_,F6_,F6_,F6_,F6_,F6_,F6_,F6_,F6_,F6_,F6_,F6_,F6_,F6_,F6_,F6_,F6_,F6_,F6_,F6_,F6_,F6_,F6_,F6_] rfl rfl (any_of HT_.out (by kernel_rfl)) (fun _ _ _ h => h) (Or.inl ⟨by rfl, ?_⟩) ?_ ?_
     rotate_left
     ·intro w'
      go_simp
      with_reducible rfl
     rotate_left
     ·simp only [Act.put, List.setIfInBounds_toArray, List.set_cons_zero, List.set_cons_succ, i64_w, i32_w]
      rfl
     refine pure_ (i := 10) (N := some 34) (v := ?_) (a' := ?_) #[T6_,T6_,T6_,T6_,T6_,T6_,T6_,T6_,T6_,T6_,T6_,F6_,F6_,F6_,F6_,F6_,F6_,F6_,F6_,F6_,F6_,F6_,F6_,F6_,F6_,F6_,F6_,F6_,F6_,F6_,F6_,F6_,F6_,F6_,F6_,F6_,F6_,F6_,F6_,F6_,F6_,F6_,F6_,F6_,F6_] rfl rfl (any_of HT_.out (by kernel_rfl)) (fun _ _ _ h => h) (Or.inl ⟨by rfl, ?_⟩) ?_ ?_
     rotate_left
     ·intro w'
      go_simp
      with_reducible rfl
     rotate_left
     ·simp only [Act.put, List.setIfInBounds_toArray, List.set_cons_zero, List.set_cons_succ, i64_w, i32_w]
      rfl
     refine pure_ (i := 11) (N := some 35) (v := ?_) (a' := ?_) #[T6_,T6_,T6_,T6_,T6_,T6_,T6_,T6_,T6_,T6_,T6_,T6_,F6_,F6_,F6_,F6_,F6_,F6_,F6_,F6_,F6_,F6_,F6_,F6_,F6_,F6_,F6_,F6_,F6_,F6_,F6_,F6_,F6_,F6_,F6_,F6_,F6_,F6_,F6_,F6_,F6_,F6_,F6_,F6_,F6_] rfl rfl (any_of HT_.out (by kernel_rfl)) (fun _ _ _ h => h) (Or.inl ⟨by rfl, ?_⟩) ?_ ?_
     rotate_left
     ·intro w'
      go_simp
      with_reducible rfl
     rotate_left
     ·simp only [Act.put, List.setIfInBounds_toArray, List.set_cons_zero, List.set_cons_succ, i64_w, i32_w]
      rfl
     refine pure_ (i := 12) (N := some 36) (v := ?_) (a' := ?_) #[T6_,T6_,T6_,T6_,T6_,T6_,T6_,T6_,T6_,T6_,T6_,T6_,T6_,F6_,F6_,F6_,F6_,F6_,F6_,F6_,F6_,F6_,F6_,F6_,F6_,F6_,F6_,F6_,F6_,F6_,F6_,F6_,F6_,F6_,F6_,F6_,F6_,F6_,F6_,F6_,F6_,F6_,F6_,F6_,F6_] rfl rfl (any_of HT_.out (by kernel_rfl)) (fun _ _ _ h => h) (Or.inl ⟨by rfl, ?_⟩) ?_ ?_
     rotate_left
     ·intro w'
      go_simp
      with_reducible rfl
     rotate_left
     ·simp only [Act.put, List.setIfInBounds_toArray, List.set_cons_zero, List.set_cons_succ, i64_w, i32_w]
      rfl
     refine pure_ (i := 13) (N := some 37) (v := ?_) (a' := ?_) #[T6_,T6_,T6_,T6_,T6_,T6_,T6_,T6_,T6_,T6_,T6_,T6_,T6_,T6_,F6_,F6_,F6_,F6_,F6_,F6_,F6_,F6_,F6_,F6_,F6_,F6_,F6_,F6_,F6_,F6_,F6_,F6_,F6_,F6_,F6_,F6_,F6_,F6_,F6_,F6_,F6_,F6_,F6_,F6_,F6_] rfl rfl (any_of HT_.out (by kernel_rfl)) (fun _ _ _ h => h) (Or.inl ⟨by rfl, ?_⟩) ?_ ?_
     rotate_left
     ·intro w'
      go_simp
      with_reducible rfl
     rotate_left
     ·simp only [Act.put, List.setIfInBounds_toArray, List.set_cons_zero, List.set_cons_succ, i64_w, i32_w]
      rfl
     refine pure_ (i := 14) (N := some 38) (v := undef) (a' := ?_) #[T6_,T6_,T6_,T6_,T6_,T6_,T6_,T6_,T6_,T6_,T6_,T6_,T6_,T6_,T6_,F6_,F6_,F6_,F6_,F6_,F6_,F6_,F6_,F6_,F6_,F6_,F6_,F6_,F6_,F6_,F6_,F6_,F6_,F6_,F6_,F6_,F6_,F6_,F6_,F6_,F6_,F6_,F6_,F6_,F6_] rfl rfl (any_of HT_.out (by kernel_rfl)) (fun _ _ _ h => h) (Or.inr ⟨by rfl, rfl⟩) ?_ ?_
     rotate_left
     ·simp only [Act.put, List.setIfInBounds_toArray, List.set_cons_zero, List.set_cons_succ, i64_w, i32_w]
      rfl
     refine pure_ (i := 15) (N := some 39) (v := undef) (a' := ?_) #[T6_,T6_,T6_,T6_,T6_,T6_,T6_,T6_,T6_,T6_,T6_,T6_,T6_,T6_,T6_,T6_,F6_,F6_,F6_,F6_,F6_,F6_,F6_,F6_,F6_,F6_,F6_,F6_,F6_,F6_,F6_,F6_,F6_,F6_,F6_,F6_,F6_,F6_,F6_,F6_,F6_,F6_,F6_,F6_,F6_] rfl rfl (any_of HT_.out (by kernel_rfl)) (fun _ _ _ h => h) (Or.inr ⟨by rfl, rfl⟩) ?_ ?_
     rotate_left
     ·simp only [Act.put, List.setIfInBounds_toArray, List.set_cons_zero, List.set_cons_succ, i64_w, i32_w]
      rfl
     refine pure_ (i := 16) (N := some 40) (v := ?_) (a' := ?_) #[T6_,T6_,T6_,T6_,T6_,T6_,T6_,T6_,T6_,T6_,T6_,T6_,T6_,T6_,T6_,T6_,T6_,F6_,F6_,F6_,F6_,F6_,F6_,F6_,F6_,F6_,F6_,F6_,F6_,F6_,F6_,F6_,F6_,F6_,F6_,F6_,F6_,F6_,F6_,F6_,F6_,F6_,F6_,F6_,F6_] rfl rfl (any_of HT_.out (by kernel_rfl)) (fun _ _ _ h => h) (Or.inl ⟨by rfl, ?_⟩) ?_ ?_
     rotate_left
     ·intro w'
      go_simp
      with_reducible rfl
     rotate_left
     ·simp only [Act.put, List.setIfInBounds_toArray, List.set_cons_zero, List.set_cons_succ, i64_w, i32_w]
      rfl
     refine pure_ (i := 17) (N := some 41) (v := ?_) (a' := ?_) #[T6_,T6_,T6_,T6_,T6_,T6_,T6_,T6_,T6_,T6_,T6_,T6_,T6_,T6_,T6_,T6_,T6_,T6_,F6_,F6_,F6_,F6_,F6_,F6_,F6_,F6_,F6_,F6_,F6_,F6_,F6_,F6_,F6_,F6_,F6_,F6_,F6_,F6_,F6_,F6_,F6_,F6_,F6_,F6_,F6_] rfl rfl (any_of HT_.out (by kernel_rfl)) (fun _ _ _ h => h) (Or.inl ⟨by rfl, ?_⟩) ?_ ?_
     rotate_left
     ·intro w'
      go_simp
      with_reducible rfl
     rotate_left
     ·simp only [Act.put, List.setIfInBounds_toArray, List.set_cons_zero, List.set_cons_succ, i64_w, i32_w]
      rfl
     refine pure_ (i := 18) (N := some 42) (v := undef) (a' := ?_) #[T6_,T6_,T6_,T6_,T6_,T6_,T6_,T6_,T6_,T6_,T6_,T6_,T6_,T6_,T6_,T6_,T6_,T6_,T6_,F6_,F6_,F6_,F6_,F6_,F6_,F6_,F6_,F6_,F6_,F6_,F6_,F6_,F6_,F6_,F6_,F6_,F6_,F6_,F6_,F6_,F6_,F6_,F6_,F6_,F6_] rfl rfl (any_of HT_.out (by kernel_rfl)) (fun _ _ _ h => h) (Or.inr ⟨by rfl, rfl⟩) ?_ ?_
     rotate_left
     ·simp only [Act.put, List.setIfInBounds_toArray, List.set_cons_zero, List.set_cons_succ, i64_w, i32_w]
      rfl
     refine pure_ (i := 19) (N := some 43) (v := undef) (a' := ?_) #[T6_,T6_,T6_,T6_,T6_,T6_,T6_,T6_,T6_,T6_,T6_,T6_,T6_,T6_,T6_,T6_,T6_,T6_,T6_,T6_,F6_,F6_,F6_,F6_,F6_,F6_,F6_,F6_,F6_,F6_,F6_,F6_,F6_,F6_,F6_,F6_,F6_,F6_,F6_,F6_,F6_,F6_,F6_,F6_,F6_] rfl rfl (any_of HT_.out (by kernel_rfl)) (fun _ _ _ h => h) (Or.inr ⟨by rfl, rfl⟩) ?_ ?_
     rotate_left
     ·simp only [Act.put, List.setIfInBounds_toArray, List.set_cons_zero, List.set_cons_succ, i64_w, i32_w]
      rfl
     refine pure_ (i := 20) (N := some 44) (v := ?_) (a' := ?_) #[T6_,T6_,T6_,T6_,T6_,T6_,T6_,T6_,T6_,T6_,T6_,T6_,T6_,T6_,T6_,T6_,T6_,T6_,T6_,T6_,T6_,F6_,F6_,F6_,F6_,F6_,F6_,F6_,F6_,F6_,F6_,F6_,F6_,F6_,F6_,F6_,F6_,F6_,F6_,F6_,F6_,F6_,F6_,F6_,F6_] rfl rfl (any_of HT_.out (by kernel_rfl)) (fun _ _ _ h => h) (Or.inl ⟨by rfl, ?_⟩) ?_ ?_
     rotate_left
     ·intro w'
      go_simp
      with_reducible rfl
     rotate_left
     ·simp only [Act.put, List.setIfInBounds_toArray, List.set_cons_zero, List.set_cons_succ, i64_w, i32_w]
      rfl
     refine pure_ (i := 21) (N := some 45) (v := ?_) (a' := ?_) #[T6_,T6_,T6_,T6_,T6_,T6_,T6_,T6_,T6_,T6_,T6_,T6_,T6_,T6_,T6_,T6_,T6_,T6_,T6_,T6_,T6_,T6_,F6_,F6_,F6_,F6_,F6_,F6_,F6_,F6_,F6_,F6_,F6_,F6_,F6_,F6_,F6_,F6_,F6_,F6_,F6_,F6_,F6_,F6_,F6_] rfl rfl (any_of HT_.out (by kernel_rfl)) (fun _ _ _ h => h) (Or.inl ⟨by rfl, ?_⟩) ?_ ?_
     rotate_left
     ·intro w'
      go_simp
      with_reducible rfl
     rotate_left
     ·simp only [Act.put, List.setIfInBounds_toArray, List.set_cons_zero, List.set_cons_succ, i64_w, i32_w]
      rfl
     refine pure_ (i := 22) (N := some 46) (v := undef) (a' := ?_) #[T6_,T6_,T6_,T6_,T6_,T6_,T6_,T6_,T6_,T6_,T6_,T6_,T6_,T6_,T6_,T6_,T6_,T6_,T6_,T6_,T6_,T6_,T6_,F6_,F6_,F6_,F6_,F6_,F6_,F6_,F6_,F6_,F6_,F6_,F6_,F6_,F6_,F6_,F6_,F6_,F6_,F6_,F6_,F6_,F6_] rfl rfl (any_of HT_.out (by kernel_rfl)) (fun _ _ _ h => h) (Or.inr ⟨by rfl, rfl⟩) ?_ ?_
     rotate_left
     ·simp only [Act.put, List.setIfInBounds_toArray, List.set_cons_zero, List.set_cons_succ, i64_w, i32_w]
      rfl
     refine pure_ (i := 23) (N := some 47) (v := undef) (a' := ?_) #[T6_,T6_,T6_,T6_,T6_,T6_,T6_,T6_,T6_,T6_,T6_,T6_,T6_,T6_,T6_,T6_,T6_,T6_,T6_,T6_,T6_,T6_,T6_,T6_,F6_,F6_,F6_,F6_,F6_,F6_,F6_,F6_,F6_,F6_,F6_,F6_,F6_,F6_,F6_,F6_,F6_,F6_,F6_,F6_,F6_] rfl rfl (any_of HT_.out (by kernel_rfl)) (fun _ _ _ h => h) (Or.inr ⟨by rfl, rfl⟩) ?_ ?_
     rotate_left
     ·simp only [Act.put, List.setIfInBounds_toArray, List.set_cons_zero, List.set_cons_succ, i64_w, i32_w]
      rfl
     refine pure_ (i := 24) (N := some 48) (v := undef) (a' := ?_) #[T6_,T6_,T6_,T6_,T6_,T6_,T6_,T6_,T6_,T6_,T6_,T6_,T6_,T6_,T6_,T6_,T6_,T6_,T6_,T6_,T6_,T6_,T6_,T6_,T6_,F6_,F6_,F6_,F6_,F6_,F6_,F6_,F6_,F6_,F6_,F6_,F6_,F6_,F6_,F6_,F6_,F6_,F6_,F6_,F6_] rfl rfl (any_of HT_.out (by kernel_rfl)) (fun _ _ _ h => h) (Or.inr ⟨by rfl, rfl⟩) ?_ ?_
     rotate_left
     ·simp only [Act.put, List.setIfInBounds_toArray, List.set_cons_zero, List.set_cons_succ, i64_w, i32_w]
      rfl
     refine pure_ (i := 25) (N := some 49) (v := undef) (a' := ?_) #[T6_,T6_,T6_,T6_,T6_,T6_,T6_,T6_,T6_,T6_,T6_,T6_,T6_,T6_,T6_,T6_,T6_,T6_,T6_,T6_,T6_,T6_,T6_,T6_,T6_,T6_,F6_,F6_,F6_,F6_,F6_,F6_,F6_,F6_,F6_,F6_,F6_,F6_,F6_,F6_,F6_,F6_,F6_,F6_,F6_] rfl rfl (any_of HT_.out (by kernel_rfl)) (fun _ _ _ h => h) (Or.inr ⟨by rfl, rfl⟩) ?_ ?_
     rotate_left
     ·simp only [Act.put, List.setIfInBounds_toArray, List.set_cons_zero, List.set_cons_succ, i64_w, i32_w]
      rfl
     refine pure_ (i := 26) (N := some 50) (v := undef) (a' := ?_) #[T6_,T6_,T6_,T6_,T6_,T6_,T6_,T6_,T6_,T6_,T6_,T6_,T6_,T6_,T6_,T6_,T6_,T6_,T6_,T6_,T6_,T6_,T6_,T6_,T6_,T6_,T6_,F6_,F6_,F6_,F6_,F6_,F6_,F6_,F6_,F6_,F6_,F6_,F6_,F6_,F6_,F6_,F6_,F6_,F6_] rfl rfl (any_of HT_.out (by kernel_rfl)) (fun _ _ _ h => h) (Or.inr ⟨by rfl, rfl⟩) ?_ ?_
     rotate_left
     ·simp only [Act.put, List.setIfInBounds_toArray, List.set_cons_zero, List.set_cons_succ, i64_w, i32_w]
      rfl
     refine pure_ (i := 27) (N := some 51) (v := undef) (a' := ?_) #[T6_,T6_,T6_,T6_,T6_,T6_,T6_,T6_,T6_,T6_,T6_,T6_,T6_,T6_,T6_,T6_,T6_,T6_,T6_,T6_,T6_,T6_,T6_,T6_,T6_,T6_,T6_,T6_,F6_,F6_,F6_,F6_,F6_,F6_,F6_,F6_,F6_,F6_,F6_,F6_,F6_,F6_,F6_,F6_,F6_] rfl rfl (any_of HT_.out (by kernel_rfl)) (fun _ _ _ h => h) (Or.inr ⟨by rfl, rfl⟩) ?_ ?_
     rotate_left
     ·simp only [Act.put, List.setIfInBounds_toArray, List.set_cons_zero, List.set_cons_succ, i64_w, i32_w]
      rfl
     refine pure_ (i := 28) (N := some 52) (v := ?_) (a' := ?_) #[T6_,T6_,T6_,T6_,T6_,T6_,T6_,T6_,T6_,T6_,T6_,T6_,T6_,T6_,T6_,T6_,T6_,T6_,T6_,T6_,T6_,T6_,T6_,T6_,T6_,T6_,T6_,T6_,T6_,F6_,F6_,F6_,F6_,F6_,F6_,F6_,F6_,F6_,F6_,F6_,F6_,F6_,F6_,F6_,F6_] rfl rfl (any_of HT_.out (by kernel_rfl)) (fun _ _ _ h => h) (Or.inl ⟨by rfl, ?_⟩) ?_ ?_
     rotate_left
     ·intro w'
      go_simp
      with_reducible rfl
     rotate_left
     ·simp only [Act.put, List.setIfInBounds_toArray, List.set_cons_zero, List.set_cons_succ, i64_w, i32_w]
      rfl
     refine pure_ (i := 29) (N := some 53) (v := ?_) (a' := ?_) #[T6_,T6_,T6_,T6_,T6_,T6_,T6_,T6_,T6_,T6_,T6_,T6_,T6_,T6_,T6_,T6_,T6_,T6_,T6_,T6_,T6_,T6_,T6_,T6_,T6_,T6_,T6_,T6_,T6_,T6_,F6_,F6_,F6_,F6_,F6_,F6_,F6_,F6_,F6_,F6_,F6_,F6_,F6_,F6_,F6_] rfl rfl (any_of HT_.out (by kernel_rfl)) (fun _ _ _ h => h) (Or.inl ⟨by rfl, ?_⟩) ?_ ?_
     rotate_left
     ·intro w'
      go_simp
      with_reducible rfl
     rotate_left
     ·simp only [Act.put, List.setIfInBounds_toArray, List.set_cons_zero, List.set_cons_succ, i64_w, i32_w]
      rfl
     refine pure_ (i := 30) (N := some 54) (v := undef) (a' := ?_) #[T6_,T6_,T6_,T6_,T6_,T6_,T6_,T6_,T6_,T6_,T6_,T6_,T6_,T6_,T6_,T6_,T6_,T6_,T6_,T6_,T6_,T6_,T6_,T6_,T6_,T6_,T6_,T6_,T6_,T6_,T6_,F6_,F6_,F6_,F6_,F6_,F6_,F6_,F6_,F6_,F6_,F6_,F6_,F6_,F6_] rfl rfl (any_of HT_.out (by kernel_rfl)) (fun _ _ _ h => h) (Or.inr ⟨by rfl, rfl⟩) ?_ ?_
     rotate_left
     ·simp only [Act.put, List.setIfInBounds_toArray, List.set_cons_zero, List.set_cons_succ, i64_w, i32_w]
      rfl
     refine pure_ (i := 31) (N := some 55) (v := undef) (a' := ?_) #[T6_,T6_,T6_,T6_,T6_,T6_,T6_,T6_,T6_,T6_,T6_,T6_,T6_,T6_,T6_,T6_,T6_,T6_,T6_,T6_,T6_,T6_,T6_,T6_,T6_,T6_,T6_,T6_,T6_,T6_,T6_,T6_,F6_,F6_,F6_,F6_,F6_,F6_,F6_,F6_,F6_,F6_,F6_,F6_,F6_] rfl rfl (any_of HT_.out (by kernel_rfl)) (fun _ _ _ h => h) (Or.inr ⟨by rfl, rfl⟩) ?_ ?_
     rotate_left
     ·simp only [Act.put, List.setIfInBounds_toArray, List.set_cons_zero, List.set_cons_succ, i64_w, i32_w]
      rfl
     refine pure_ (i := 32) (N := some 56) (v := undef) (a' := ?_) #[T6_,T6_,T6_,T6_,T6_,T6_,T6_,T6_,T6_,T6_,T6_,T6_,T6_,T6_,T6_,T6_,T6_,T6_,T6_,T6_,T6_,T6_,T6_,T6_,T6_,T6_,T6_,T6_,T6_,T6_,T6_,T6_,T6_,F6_,F6_,F6_,F6_,F6_,F6_,F6_,F6_,F6_,F6_,F6_,F6_] rfl rfl (any_of HT_.out (by kernel_rfl)) (fun _ _ _ h => h) (Or.inr ⟨by rfl, rfl⟩) ?_ ?_
     rotate_left
     ·simp only [Act.put, List.setIfInBounds_toArray, List.set_cons_zero, List.set_cons_succ, i64_w, i32_w]
      rfl
     refine pure_ (i := 33) (N := some 57) (v := undef) (a' := ?_) #[T6_,T6_,T6_,T6_,T6_,T6_,T6_,T6_,T6_,T6_,T6_,T6_,T6_,T6_,T6_,T6_,T6_,T6_,T6_,T6_,T6_,T6_,T6_,T6_,T6_,T6_,T6_,T6_,T6_,T6_,T6_,T6_,T6_,T6_,F6_,F6_,F6_,F6_,F6_,F6_,F6_,F6_,F6_,F6_,F6_] rfl rfl (any_of HT_.out (by kernel_rfl)) (fun _ _ _ h => h) (Or.inr ⟨by rfl, rfl⟩) ?_ ?_
     rotate_left
     ·simp only [Act.put, List.setIfInBounds_toArray, List.set_cons_zero, List.set_cons_succ, i64_w, i32_w]
      rfl
     refine pure_ (i := 34) (N := some 58) (v := undef) (a' := ?_) #[T6_,T6_,T6_,T6_,T6_,T6_,T6_,T6_,T6_,T6_,T6_,T6_,T6_,T6_,T6_,T6_,T6_,T6_,T6_,T6_,T6_,T6_,T6_,T6_,T6_,T6_,T6_,T6_,T6_,T6_,T6_,T6_,T6_,T6_,T6_,F6_,F6_,F6_,F6_,F6_,F6_,F6_,F6_,F6_,F6_] rfl rfl (any_of HT_.out (by kernel_rfl)) (fun _ _ _ h => h) (Or.inr ⟨by rfl, rfl⟩) ?_ ?_
     rotate_left
     ·simp only [Act.put, List.setIfInBounds_toArray, List.set_cons_zero, List.set_cons_succ, i64_w, i32_w]
      rfl
     refine pure_ (i := 35) (N := some 59) (v := undef) (a' := ?_) #[T6_,T6_,T6_,T6_,T6_,T6_,T6_,T6_,T6_,T6_,T6_,T6_,T6_,T6_,T6_,T6_,T6_,T6_,T6_,T6_,T6_,T6_,T6_,T6_,T6_,T6_,T6_,T6_,T6_,T6_,T6_,T6_,T6_,T6_,T6_,T6_,F6_,F6_,F6_,F6_,F6_,F6_,F6_,F6_,F6_] rfl rfl (any_of HT_.out (by kernel_rfl)) (fun _ _ _ h => h) (Or.inr ⟨by rfl, rfl⟩) ?_ ?_
     rotate_left
     ·simp only [Act.put, List.setIfInBounds_toArray, List.set_cons_zero, List.set_cons_succ, i64_w, i32_w]
      rfl
     refine pure_ (i := 36) (N := some 60) (v := undef) (a' := ?_) #[T6_,T6_,T6_,T6_,T6_,T6_,T6_,T6_,T6_,T6_,T6_,T6_,T6_,T6_,T6_,T6_,T6_,T6_,T6_,T6_,T6_,T6_,T6_,T6_,T6_,T6_,T6_,T6_,T6_,T6_,T6_,T6_,T6_,T6_,T6_,T6_,T6_,F6_,F6_,F6_,F6_,F6_,F6_,F6_,F6_] rfl rfl (any_of HT_.out (by kernel_rfl)) (fun _ _ _ h => h) (Or.inr ⟨by rfl, rfl⟩) ?_ ?_
     rotate_left
     ·simp only [Act.put, List.setIfInBounds_toArray, List.set_cons_zero, List.set_cons_succ, i64_w, i32_w]
      rfl
     refine pure_ (i := 37) (N := some 61) (v := undef) (a' := ?_) #[T6_,T6_,T6_,T6_,T6_,T6_,T6_,T6_,T6_,T6_,T6_,T6_,T6_,T6_,T6_,T6_,T6_,T6_,T6_,T6_,T6_,T6_,T6_,T6_,T6_,T6_,T6_,T6_,T6_,T6_,T6_,T6_,T6_,T6_,T6_,T6_,T6_,T6_,F6_,F6_,F6_,F6_,F6_,F6_,F6_] rfl rfl (any_of HT_.out (by kernel_rfl)) (fun _ _ _ h => h) (Or.inr ⟨by rfl, rfl⟩) ?_ ?_
     rotate_left
     ·simp only [Act.put, List.setIfInBounds_toArray, List.set_cons_zero, List.set_cons_succ, i64_w, i32_w]
      rfl
     refine pure_ (i := 38) (N := some 62) (v := undef) (a' := ?_) #[T6_,T6_,T6_,T6_,T6_,T6_,T6_,T6_,T6_,T6_,T6_,T6_,T6_,T6_,T6_,T6_,T6_,T6_,T6_,T6_,T6_,T6_,T6_,T6_,T6_,T6_,T6_,T6_,T6_,T6_,T6_,T6_,T6_,T6_,T6_,T6_,T6_,T6_,T6_,F6_,F6_,F6_,F6_,F6_,F6_] rfl rfl (any_of HT_.out (by kernel_rfl)) (fun _ _ _ h => h) (Or.inr ⟨by rfl, rfl⟩) ?_ ?_
     rotate_left
     ·simp only [Act.put, List.setIfInBounds_toArray, List.set_cons_zero, List.set_cons_succ, i64_w, i32_w]
      rfl
     refine pure_ (i := 39) (N := some 63) (v := undef) (a' := ?_) #[T6_,T6_,T6_,T6_,T6_,T6_,T6_,T6_,T6_,T6_,T6_,T6_,T6_,T6_,T6_,T6_,T6_,T6_,T6_,T6_,T6_,T6_,T6_,T6_,T6_,T6_,T6_,T6_,T6_,T6_,T6_,T6_,T6_,T6_,T6_,T6_,T6_,T6_,T6_,T6_,F6_,F6_,F6_,F6_,F6_] rfl rfl (any_of HT_.out (by kernel_rfl)) (fun _ _ _ h => h) (Or.inr ⟨by rfl, rfl⟩) ?_ ?_
     rotate_left
     ·simp only [Act.put, List.setIfInBounds_toArray, List.set_cons_zero, List.set_cons_succ, i64_w, i32_w]
      rfl
     refine pure_ (i := 40) (N := some 64) (v := undef) (a' := ?_) #[T6_,T6_,T6_,T6_,T6_,T6_,T6_,T6_,T6_,T6_,T6_,T6_,T6_,T6_,T6_,T6_,T6_,T6_,T6_,T6_,T6_,T6_,T6_,T6_,T6_,T6_,T6_,T6_,T6_,T6_,T6_,T6_,T6_,T6_,T6_,T6_,T6_,T6_,T6_,T6_,T6_,F6_,F6_,F6_,F6_] rfl rfl (any_of HT_.out (by kernel_rfl)) (fun _ _ _ h => h) (Or.inr ⟨by rfl, rfl⟩) ?_ ?_
     rotate_left
     ·simp only [Act.put, List.setIfInBounds_toArray, List.set_cons_zero, List.set_cons_succ, i64_w, i32_w]
      rfl
     refine pure_ (i := 41) (N := some 65) (v := undef) (a' := ?_) #[T6_,T6_,T6_,T6_,T6_,T6_,T6_,T6_,T6_,T6_,T6_,T6_,T6_,T6_,T6_,T6_,T6_,T6_,T6_,T6_,T6_,T6_,T6_,T6_,T6_,T6_,T6_,T6_,T6_,T6_,T6_,T6_,T6_,T6_,T6_,T6_,T6_,T6_,T6_,T6_,T6_,T6_,F6_,F6_,F6_] rfl rfl (any_of HT_.out (by kernel_rfl)) (fun _ _ _ h => h) (Or.inr ⟨by rfl, rfl⟩) ?_ ?_
     rotate_left
     ·simp only [Act.put, List.setIfInBounds_toArray, List.set_cons_zero, List.set_cons_succ, i64_w, i32_w]
      rfl
     refine pure_ (i := 42) (N := some 66) (v := undef) (a' := ?_) #[T6_,T6_,T6_,T6_,T6_,T6_,T6_,T6_,T6_,T6_,T6_,T6_,T6_,T6_,T6_,T6_,T6_,T6_,T6_,T6_,T6_,T6_,T6_,T6_,T6_,T6_,T6_,T6_,T6_,T6_,T6_,T6_,T6_,T6_,T6_,T6_,T6_,T6_,T6_,T6_,T6_,T6_,T6_,F6_,F6_] rfl rfl (any_of HT_.out (by kernel_rfl)) (fun _ _ _ h => h) (Or.inr ⟨by rfl, rfl⟩) ?_ ?_
     rotate_left
     ·simp only [Act.put, List.setIfInBounds_toArray, List.set_cons_zero, List.set_cons_succ, i64_w, i32_w]
      rfl
     refine pure_ (i := 43) (N := some 67) (v := undef) (a' := ?_) #[T6_,T6_,T6_,T6_,T6_,T6_,T6_,T6_,T6_,T6_,T6_,T6_,T6_,T6_,T6_,T6_,T6_,T6_,T6_,T6_,T6_,T6_,T6_,T6_,T6_,T6_,T6_,T6_,T6_,T6_,T6_,T6_,T6_,T6_,T6_,T6_,T6_,T6_,T6_,T6_,T6_,T6_,T6_,T6_,F6_] rfl rfl (any_of HT_.out (by kernel_rfl)) (fun _ _ _ h => h) (Or.inr ⟨by rfl, rfl⟩) ?_ ?_
     rotate_left
     ·simp only [Act.put, List.setIfInBounds_toArray, List.set_cons_zero, List.set_cons_succ, i64_w, i32_w]
      rfl
     refine pure_ (i := 44) (N := some 68) (v := ?_) (a' := ?_) #[T6_,T6_,T6_,T6_,T6_,T6_,T6_,T6_,T6_,T6_,T6_,T6_,T6_,T6_,T6_,T6_,T6_,T6_,T6_,T6_,T6_,T6_,T6_,T6_,T6_,T6_,T6_,T6_,T6_,T6_,T6_,T6_,T6_,T6_,T6_,T6_,T6_,T6_,T6_,T6_,T6_,T6_,T6_,T6_,T6_] rfl rfl (any_of HT_.out (by kernel_rfl)) (fun _ _ _ h => h) (Or.inl ⟨by rfl, ?_⟩) ?_ ?_
     rotate_left
     ·intro w'
      go_simp
      with_reducible rfl
     rotate_left
     ·simp only [Act.put, List.setIfInBounds_toArray, List.set_cons_zero, List.set_cons_succ, i64_w, i32_w]
      rfl
     refine done_ (done_of HT_.out (by kernel_rfl)) ?_
     try go_wp2
     go_meet
     case rel => exact ⟨_, (true), (by first | rfl | (simp; done) | (simp [*]; done)), H', ⟨by first | omega | exact Nat.le_refl _⟩, ⟨HBu HB.out⟩⟩
    ·rw [if_neg c10] at H
     have c10b0 : decide (a2 < 1) = false := decide_eq_false c10
     clear c10
     by_cases c12 : a3 < 1
     ·rw [if_pos c12] at H
      have c12b0 : decide (a3 < 1) = true := decide_eq_true c12
      clear c12
      have H' := Aside0.mk H
      clear H
      try go_wp2
      replace HB := Aside0.mk (below_drew1 HB.out)
      refine start_ (n := 45) (S := fun w' => True) (ds := []) #[F6_,F6_,F6_,F6_,F6_,F6_,F6_,F6_,F6_,F6_,F6_,F6_,F6_,F6_,F6_,F6_,F6_,F6_,F6_,F6_,F6_,F6_,F6_,F6_,F6_,F6_,F6_,F6_,F6_,F6_,F6_,F6_,F6_,F6_,F6_,F6_,F6_,F6_,F6_,F6_,F6_,F6_,F6_,F6_,F6_] (by kernel_rfl) rfl rfl trivial (fun hHeld => ?_); refine with_tabW impl_foldPairs.tab2 impl_foldPairs.bits2 (fun HT_ HW_ => ?_)
      generalize w.drew = w13 at HB hHeld ⊢
      refine pure_ (i := 0) (N := some 24) (v := ?_) (a' := ?_) #[T6_,F6_,F6_,F6_,F6_,F6_,F6_,F6_,F6_,F6_,F6_,F6_,F6_,F6_,F6_,F6_,F6_,F6_,F6_,F6_,F6_,F6_,F6_,F6_,F6_,F6_,F6_,F6_,F6_,F6_,F6_,F6_,F6_,F6_,F6_,F6_,F6_,F6_,F6_,F6_,F6_,F6_,F6_,F6_,F6_] rfl rfl (any_of HT_.out (by kernel_rfl)) (fun _ _ _ h => h) (Or.inl ⟨by rfl, ?_⟩) ?_ ?_
      rotate_left
      ·intro w'
       go_simp
       with_reducible rfl
      rotate_left
      ·simp only [Act.put, List.setIfInBounds_toArray, List.set_cons_zero, List.set_cons_succ, i64_w, i32_w]
       rfl
      refine pure_ (i := 1) (N := some 25) (v := ?_) (a' := ?_) #[T6_,T6_,F6_,F6_,F6_,F6_,F6_,F6_,F6_,F6_,F6_,F6_,F6_,F6_,F6_,F6_,F6_,F6_,F6_,F6_,F6_,F6_,F6_,F6_,F6_,F6_,F6_,F6_,F6_,F6_,F6_,F6_,F6_,F6_,F6_,F6_,F6_,F6_,F6_,F6_,F6_,F6_,F6_,F6_,F6_] rfl rfl (any_of HT_.out (by kernel_rfl)) (fun _ _ _ h => h) (Or.inl ⟨by rfl, ?_⟩) ?_ ?_
      rotate_left
      ·intro w'
       go_simp
       with_reducible rfl
      rotate_left
      ·simp only [Act.put, List.setIfInBounds_toArray, List.set_cons_zero, List.set_cons_succ, i64_w, i32_w]
       rfl
      refine one_ (i := 2) (N := some 26) #[T6_,T6_,T6_,F6_,F6_,F6_,F6_,F6_,F6_,F6_,F6_,F6_,F6_,F6_,F6_,F6_,F6_,F6_,F6_,F6_,F6_,F6_,F6_,F6_,F6_,F6_,F6_,F6_,F6_,F6_,F6_,F6_,F6_,F6_,F6_,F6_,F6_,F6_,F6_,F6_,F6_,F6_,F6_,F6_,F6_] rfl rfl (one_of HT_.out (by kernel_rfl)) (by decide) (fun K hK => ?_)
      refine goes_ Try.func78 (by kernel_rfl) rfl #[.slice A0 l0.length c0, .int .i64 a1] (by rfl) rfl rfl (by (try simp only [List.map_toArray, List.map_cons, List.map_nil]); first | done | rfl | (simp only [List.length_drop, List.length_take]; rfl)) ?_
      with_reducible refine (impl_isAxis.calls _ _ l0 a1 true _ ?side1 ?side2 A6.out).mono ?_
      (case side1 => exact (Cu ((Kd.C_below HR0.out HB.out))))
      (case side2 => exact HC0.out)
      rintro e w' ⟨rfl, ⟨nd, rfl⟩⟩
      refine ⟨_, rfl, ?_⟩
      refine hK.out _ _ trivial (fun hHeld => ?_)
      clear hK K
      refine norm_ (a' := ?_) ?_ ?_
      rotate_left
      ·show Act.put _ (some 26) _ = _
       simp only [Act.put, List.setIfInBounds_toArray, List.set_cons_zero, List.set_cons_succ, i64_w, i32_w]
       rfl
      refine pure_ (i := 3) (N := some 27) (v := ?_) (a' := ?_) #[T6_,T6_,T6_,T6_,F6_,F6_,F6_,F6_,F6_,F6_,F6_,F6_,F6_,F6_,F6_,F6_,F6_,F6_,F6_,F6_,F6_,F6_,F6_,F6_,F6_,F6_,F6_,F6_,F6_,F6_,F6_,F6_,F6_,F6_,F6_,F6_,F6_,F6_,F6_,F6_,F6_,F6_,F6_,F6_,F6_] rfl rfl (any_of HT_.out (by kernel_rfl)) (fun _ _ _ h => h) (Or.inl ⟨by rfl, ?_⟩) ?_ ?_
      rotate_left
      ·intro w'
       go_simp
       with_reducible rfl
      rotate_left
      ·simp only [Act.put, List.setIfInBounds_toArray, List.set_cons_zero, List.set_cons_succ, i64_w, i32_w]
       rfl
      refine pure_ (i := 4) (N := some 28) (v := ?_) (a' := ?_) #[T6_,T6_,T6_,T6_,T6_,F6_,F6_,F6_,F6_,F6_,F6_,F6_,F6_,F6_,F6_,F6_,F6_,F6_,F6_,F6_,F6_,F6_,F6_,F6_,F6_,F6_,F6_,F6_,F6_,F6_,F6_,F6_,F6_,F6_,F6_,F6_,F6_,F6_,F6_,F6_,F6_,F6_,F6_,F6_,F6_] rfl rfl (any_of HT_.out (by kernel_rfl)) (fun _ _ _ h => h) (Or.inl ⟨by rfl, ?_⟩) ?_ ?_
      rotate_left
      ·intro w'
       go_simp
       with_reducible rfl
      rotate_left
      ·simp only [Act.put, List.setIfInBounds_toArray, List.set_cons_zero, List.set_cons_succ, i64_w, i32_w]
       rfl
      refine pure_ (i := 5) (N := some 29) (v := ?_) (a' := ?_) #[T6_,T6_,T6_,T6_,T6_,T6_,F6_,F6_,F6_,F6_,F6_,F6_,F6_,F6_,F6_,F6_,F6_,F6_,F6_,F6_,F6_,F6_,F6_,F6_,F6_,F6_,F6_,F6_,F6_,F6_,F6_,F6_,F6_,F6_,F6_,F6_,F6_,F6_,F6_,F6_,F6_,F6_,F6_,F6_,F6_] rfl rfl (any_of HT_.out (by kernel_rfl)) (fun _ _ _ h => h) (Or.inl ⟨by rfl, ?_⟩) ?_ ?_
      rotate_left
      ·intro w'
       go_simp
       with_reducible rfl
      rotate_left
      ·simp only [Act.put, List.setIfInBounds_toArray, List.set_cons_zero, List.set_cons_succ, i64_w, i32_w]
       rfl
      refine pure_ (i := 6) (N := some 30) (v := ?_) (a' := ?_) #[T6_,T6_,T6_,T6_,T6_,T6_,T6_,F6_,F6_,F6_,F6_,F6_,F6_,F6_,F6_,F6_,F6_,F6_,F6_,F6_,F6_,F6_,F6_,F6_,F6_,F6_,F6_,F6_,F6_,F6_,F6_,F6_,F6_,F6_,F6_,F6_,F6_,F6_,F6_,F6_,F6_,F6_,F6_,F6_,F6_] rfl rfl (any_of HT_.out (by kernel_rfl)) (fun _ _ _ h => h) (Or.inl ⟨by rfl, ?_⟩) ?_ ?_
      rotate_left
      ·intro w'
       go_simp
       with_reducible rfl
      rotate_left
      ·simp only [Act.put, List.setIfInBounds_toArray, List.set_cons_zero, List.set_cons_succ, i64_w, i32_w]
       rfl
      refine pure_ (i := 7) (N := some 31) (v := ?_) (a' := ?_) #[T6_,T6_,T6_,T6_,T6_,T6_,T6_,T6_,F6_,F6_,F6_,F6_,F6_,F6_,F6_,F6_,F6_,F6_,F6_,F6_,F6_,F6_,F6_,F6_,F6_,F6_,F6_,F6_,F6_,F6_,F6_,F6_,F6_,F6_,F6_,F6_,F6_,F6_,F6_,F6_,F6_,F6_,F6_,F6_,F6_] rfl rfl (any_of HT_.out (by kernel_rfl)) (fun _ _ _ h => h) (Or.inl ⟨by rfl, ?_⟩) ?_ ?_
      rotate_left
      ·intro w'
       go_simp
       with_reducible rfl
      rotate_left
      ·simp only [Act.put, List.setIfInBounds_toArray, List.set_cons_zero, List.set_cons_succ, i64_w, i32_w]
       rfl
      refine pure_ (i := 8) (N := some 32) (v := ?_) (a' := ?_) #[T6_,T6_,T6_,T6_,T6_,T6_,T6_,T6_,T6_,F6_,F6_,F6_,F6_,F6_,F6_,F6_,F6_,F6_,F6_,F6_,F6_,F6_,F6_,F6_,F6_,F6_,F6_,F6_,F6_,F6_,F6_,F6_,F6_,F6_,F6_,F6_,F6_,F6_,F6_,F6_,F6_,F6_,F6_,F6_,F6_] rfl rfl (any_of HT_.out (by kernel_rfl)) (fun _ _ _ h => h) (Or.inl ⟨by rfl, ?_⟩) ?_ ?_
      rotate_left
      ·intro w'
       go_simp
       with_reducible rfl
      rotate_left
      ·simp only [Act.put, List.setIfInBounds_toArray, List.set_cons_zero, List.set_cons_succ, i64_w, i32_w]
       rfl
      refine pure_ (i := 9) (N := some 33) (v := ?_) (a' := ?_) #[T6_,T6_,T6_,T6_,T6_,T6_,T6_,T6_,T6_,T6_,F6_,F6_,F6_,F6_,F6_,F6_,F6_,F6_,F6_,F6_,F6_,F6_,F6_,F6_,F6_,F6_,F6_,F6_,F6_,F6_,F6_,F6_,F6_,F6_,F6_,F6_,F6_,F6_,F6_,F6_,F6_,F6_,F6_,F6_,F6_] rfl rfl (any_of HT_.out (by kernel_rfl)) (fun _ _ _ h => h) (Or.inl ⟨by rfl, ?_⟩) ?_ ?_
      rotate_left
      ·intro w'
       go_simp
       with_reducible rfl
      rotate_left
      ·simp only [Act.put, List.setIfInBounds_toArray, List.set_cons_zero, List.set_cons_succ, i64_w, i32_w]
       rfl
      refine pure_ (i := 10) (N := some 34) (v := ?_) (a' := ?_) #[T6_,T6_,T6_,T6_,T6_,T6_,T6_,T6_,T6_,T6_,T6_,F6_,F6_,F6_,F6_,F6_,F6_,F6_,F6_,F6_,F6_,F6_,F6_,F6_,F6_,F6_,F6_,F6_,F6_,F6_,F6_,F6_,F6_,F6_,F6_,F6_,F6_,F6_,F6_,F6_,F6_,F6_,F6_,F6_,F6_] rfl rfl (any_of HT_.out (by kernel_rfl)) (fun _ _ _ h => h) (Or.inl ⟨by rfl, ?_⟩) ?_ ?_
      rotate_left
      ·intro w'
       go_simp
       with_reducible rfl
      rotate_left
      ·simp only [Act.put, List.setIfInBounds_toArray, List.set_cons_zero, List.set_cons_succ, i64_w, i32_w]
       rfl
      refine pure_ (i := 11) (N := some 35) (v := ?_) (a' := ?_) #[T6_,T6_,T6_,T6_,T6_,T6_,T6_,T6_,T6_,T6_,T6_,T6_,F6_,F6_,F6_,F6_,F6_,F6_,F6_,F6_,F6_,F6_,F6_,F6_,F6_,F6_,F6_,F6_,F6_,F6_,F6_,F6_,F6_,F6_,F6_,F6_,F6_,F6_,F6_,F6_,F6_,F6_,F6_,F6_,F6_] rfl rfl (any_of HT_.out (by kernel_rfl)) (fun _ _ _ h => h) (Or.inl ⟨by rfl, ?_⟩) ?_ ?_
      rotate_left
      ·intro w'
       go_simp
       with_reducible rfl
      rotate_left
      ·simp only [Act.put, List.setIfInBounds_toArray, List.set_cons_zero, List.set_cons_succ, i64_w, i32_w]
       rfl
      refine pure_ (i := 12) (N := some 36) (v := ?_) (a' := ?_) #[T6_,T6_,T6_,T6_,T6_,T6_,T6_,T6_,T6_,T6_,T6_,T6_,T6_,F6_,F6_,F6_,F6_,F6_,F6_,F6_,F6_,F6_,F6_,F6_,F6_,F6_,F6_,F6_,F6_,F6_,F6_,F6_,F6_,F6_,F6_,F6_,F6_,F6_,F6_,F6_,F6_,F6_,F6_,F6_,F6_] rfl rfl (any_of HT_.out (by kernel_rfl)) (fun _ _ _ h => h) (Or.inl ⟨by rfl, ?_⟩) ?_ ?_
      rotate_left
      ·intro w'
       go_simp
       with_reducible rfl
      rotate_left
      ·simp only [Act.put, List.setIfInBounds_toArray, List.set_cons_zero, List.set_cons_succ, i64_w, i32_w]
       rfl
      refine pure_ (i := 13) (N := some 37) (v := ?_) (a' := ?_) #[T6_,T6_,T6_,T6_,T6_,T6_,T6_,T6_,T6_,T6_,T6_,T6_,T6_,T6_,F6_,F6_,F6_,F6_,F6_,F6_,F6_,F6_,F6_,F6_,F6_,F6_,F6_,F6_,F6_,F6_,F6_,F6_,F6_,F6_,F6_,F6_,F6_,F6_,F6_,F6_,F6_,F6_,F6_,F6_,F6_] rfl rfl (any_of HT_.out (by kernel_rfl)) (fun _ _ _ h => h) (Or.inl ⟨by rfl, ?_⟩) ?_ ?_
      rotate_left
      ·intro w'
       go_simp
       with_reducible rfl
      rotate_left
      ·simp only [Act.put, List.setIfInBounds_toArray, List.set_cons_zero, List.set_cons_succ, i64_w, i32_w]
       rfl
      refine pure_ (i := 14) (N := some 38) (v := ?_) (a' := ?_) #[T6_,T6_,T6_,T6_,T6_,T6_,T6_,T6_,T6_,T6_,T6_,T6_,T6_,T6_,T6_,F6_,F6_,F6_,F6_,F6_,F6_,F6_,F6_,F6_,F6_,F6_,F6_,F6_,F6_,F6_,F6_,F6_,F6_,F6_,F6_,F6_,F6_,F6_,F6_,F6_,F6_,F6_,F6_,F6_,F6_] rfl rfl (any_of HT_.out (by kernel_rfl)) (fun _ _ _ h => h) (Or.inl ⟨by rfl, ?_⟩) ?_ ?_
      rotate_left
      ·intro w'
       go_simp
       with_reducible rfl
      rotate_left
      ·simp only [Act.put, List.setIfInBounds_toArray, List.set_cons_zero, List.set_cons_succ, i64_w, i32_w]
       rfl
      refine pure_ (i := 15) (N := some 39) (v := ?_) (a' := ?_) #[T6_,T6_,T6_,T6_,T6_,T6_,T6_,T6_,T6_,T6_,T6_,T6_,T6_,T6_,T6_,T6_,F6_,F6_,F6_,F6_,F6_,F6_,F6_,F6_,F6_,F6_,F6_,F6_,F6_,F6_,F6_,F6_,F6_,F6_,F6_,F6_,F6_,F6_,F6_,F6_,F6_,F6_,F6_,F6_,F6_] rfl rfl (any_of HT_.out (by kernel_rfl)) (fun _ _ _ h => h) (Or.inl ⟨by rfl, ?_⟩) ?_ ?_
      rotate_left
      ·intro w'
       go_simp
       with_reducible rfl
      rotate_left
      ·simp only [Act.put, List.setIfInBounds_toArray, List.set_cons_zero, List.set_cons_succ, i64_w, i32_w]
       rfl
      refine pure_ (i := 16) (N := some 40) (v := ?_) (a' := ?_) #[T6_,T6_,T6_,T6_,T6_,T6_,T6_,T6_,T6_,T6_,T6_,T6_,T6_,T6_,T6_,T6_,T6_,F6_,F6_,F6_,F6_,F6_,F6_,F6_,F6_,F6_,F6_,F6_,F6_,F6_,F6_,F6_,F6_,F6_,F6_,F6_,F6_,F6_,F6_,F6_,F6_,F6_,F6_,F6_,F6_] rfl rfl (any_of HT_.out (by kernel_rfl)) (fun _ _ _ h => h) (Or.inl ⟨by rfl, ?_⟩) ?_ ?_
      rotate_left
      ·intro w'
       go_simp
       with_reducible rfl
      rotate_left
      ·simp only [Act.put, List.setIfInBounds_toArray, List.set_cons_zero, List.set_cons_succ, i64_w, i32_w]
       rfl
      refine pure_ (i := 17) (N := some 41) (v := ?_) (a' := ?_) #[T6_,T6_,T6_,T6_,T6_,T6_,T6_,T6_,T6_,T6_,T6_,T6_,T6_,T6_,T6_,T6_,T6_,T6_,F6_,F6_,F6_,F6_,F6_,F6_,F6_,F6_,F6_,F6_,F6_,F6_,F6_,F6_,F6_,F6_,F6_,F6_,F6_,F6_,F6_,F6_,F6_,F6_,F6_,F6_,F6_] rfl rfl (any_of HT_.out (by kernel_rfl)) (fun _ _ _ h => h) (Or.inl ⟨by rfl, ?_⟩) ?_ ?_
      rotate_left
      ·intro w'
       go_simp
       with_reducible rfl
      rotate_left
      ·simp only [Act.put, List.setIfInBounds_toArray, List.set_cons_zero, List.set_cons_succ, i64_w, i32_w]
       rfl
      refine pure_ (i := 18) (N := some 42) (v := undef) (a' := ?_) #[T6_,T6_,T6_,T6_,T6_,T6_,T6_,T6_,T6_,T6_,T6_,T6_,T6_,T6_,T6_,T6_,T6_,T6_,T6_,F6_,F6_,F6_,F6_,F6_,F6_,F6_,F6_,F6_,F6_,F6_,F6_,F6_,F6_,F6_,F6_,F6_,F6_,F6_,F6_,F6_,F6_,F6_,F6_,F6_,F6_] rfl rfl (any_of HT_.out (by kernel_rfl)) (fun _ _ _ h => h) (Or.inr ⟨by rfl, rfl⟩) ?_ ?_
      rotate_left
      ·simp only [Act.put, List.setIfInBounds_toArray, List.set_cons_zero, List.set_cons_succ, i64_w, i32_w]
       rfl
      refine pure_ (i := 19) (N := some 43) (v := undef) (a' := ?_) #[T6_,T6_,T6_,T6_,T6_,T6_,T6_,T6_,T6_,T6_,T6_,T6_,T6_,T6_,T6_,T6_,T6_,T6_,T6_,T6_,F6_,F6_,F6_,F6_,F6_,F6_,F6_,F6_,F6_,F6_,F6_,F6_,F6_,F6_,F6_,F6_,F6_,F6_,F6_,F6_,F6_,F6_,F6_,F6_,F6_] rfl rfl (any_of HT_.out (by kernel_rfl)) (fun _ _ _ h => h) (Or.inr ⟨by rfl, rfl⟩) ?_ ?_
      rotate_left
      ·simp only [Act.put, List.setIfInBounds_toArray, List.set_cons_zero, List.set_cons_succ, i64_w, i32_w]
       rfl
      refine pure_ (i := 20) (N := some 44) (v := ?_) (a' := ?_) #[T6_,T6_,T6_,T6_,T6_,T6_,T6_,T6_,T6_,T6_,T6_,T6_,T6_,T6_,T6_,T6_,T6_,T6_,T6_,T6_,T6_,F6_,F6_,F6_,F6_,F6_,F6_,F6_,F6_,F6_,F6_,F6_,F6_,F6_,F6_,F6_,F6_,F6_,F6_,F6_,F6_,F6_,F6_,F6_,F6_] rfl rfl (any_of HT_.out (by kernel_rfl)) (fun _ _ _ h => h) (Or.inl ⟨by rfl, ?_⟩) ?_ ?_
      rotate_left
      ·intro w'
       go_simp
       with_reducible rfl
      rotate_left
      ·simp only [Act.put, List.setIfInBounds_toArray, List.set_cons_zero, List.set_cons_succ, i64_w, i32_w]
       rfl
      refine pure_ (i := 21) (N := some 45) (v := ?_) (a' := ?_) #[T6_,T6_,T6_,T6_,T6_,T6_,T6_,T6_,T6_,T6_,T6_,T6_,T6_,T6_,T6_,T6_,T6_,T6_,T6_,T6_,T6_,T6_,F6_,F6_,F6_,F6_,F6_,F6_,F6_,F6_,F6_,F6_,F6_,F6_,F6_,F6_,F6_,F6_,F6_,F6_,F6_,F6_,F6_,F6_,F6_] rfl rfl (any_of HT_.out (by kernel_rfl)) (fun _ _ _ h => h) (Or.inl ⟨by rfl, ?_⟩) ?_ ?_
      rotate_left
      ·intro w'
       go_simp
       with_reducible rfl
      rotate_left
      ·simp only [Act.put, List.setIfInBounds_toArray, List.set_cons_zero, List.set_cons_succ, i64_w, i32_w]
       rfl
      refine pure_ (i := 22) (N := some 46) (v := undef) (a' := ?_) #[T6_,T6_,T6_,T6_,T6_,T6_,T6_,T6_,T6_,T6_,T6_,T6_,T6_,T6_,T6_,T6_,T6_,T6_,T6_,T6_,T6_,T6_,T6_,F6_,F6_,F6_,F6_,F6_,F6_,F6_,F6_,F6_,F6_,F6_,F6_,F6_,F6_,F6_,F6_,F6_,F6_,F6_,F6_,F6_,F6_] rfl rfl (any_of HT_.out (by kernel_rfl)) (fun _ _ _ h => h) (Or.inr ⟨by rfl, rfl⟩) ?_ ?_
      rotate_left
      ·simp only [Act.put, List.setIfInBounds_toArray, List.set_cons_zero, List.set_cons_succ, i64_w, i32_w]
       rfl
      refine pure_ (i := 23) (N := some 47) (v := undef) (a' := ?_) #[T6_,T6_,T6_,T6_,T6_,T6_,T6_,T6_,T6_,T6_,T6_,T6_,T6_,T6_,T6_,T6_,T6_,T6_,T6_,T6_,T6_,T6_,T6_,T6_,F6_,F6_,F6_,F6_,F6_,F6_,F6_,F6_,F6_,F6_,F6_,F6_,F6_,F6_,F6_,F6_,F6_,F6_,F6_,F6_,F6_] rfl rfl (any_of HT_.out (by kernel_rfl)) (fun _ _ _ h => h) (Or.inr ⟨by rfl, rfl⟩) ?_ ?_
      rotate_left
      ·simp only [Act.put, List.setIfInBounds_toArray, List.set_cons_zero, List.set_cons_succ, i64_w, i32_w]
       rfl
      refine pure_ (i := 24) (N := some 48) (v := undef) (a' := ?_) #[T6_,T6_,T6_,T6_,T6_,T6_,T6_,T6_,T6_,T6_,T6_,T6_,T6_,T6_,T6_,T6_,T6_,T6_,T6_,T6_,T6_,T6_,T6_,T6_,T6_,F6_,F6_,F6_,F6_,F6_,F6_,F6_,F6_,F6_,F6_,F6_,F6_,F6_,F6_,F6_,F6_,F6_,F6_,F6_,F6_] rfl rfl (any_of HT_.out (by kernel_rfl)) (fun _ _ _ h => h) (Or.inr ⟨by rfl, rfl⟩) ?_ ?_
      rotate_left
      ·simp only [Act.put, List.setIfInBounds_toArray, List.set_cons_zero, List.set_cons_succ, i64_w, i32_w]
       rfl
      refine pure_ (i := 25) (N := some 49) (v := undef) (a' := ?_) #[T6_,T6_,T6_,T6_,T6_,T6_,T6_,T6_,T6_,T6_,T6_,T6_,T6_,T6_,T6_,T6_,T6_,T6_,T6_,T6_,T6_,T6_,T6_,T6_,T6_,T6_,F6_,F6_,F6_,F6_,F6_,F6_,F6_,F6_,F6_,F6_,F6_,F6_,F6_,F6_,F6_,F6_,F6_,F6_,F6_] rfl rfl (any_of HT_.out (by kernel_rfl)) (fun _ _ _ h => h) (Or.inr ⟨by rfl, rfl⟩) ?_ ?_
      rotate_left
      ·simp only [Act.put, List.setIfInBounds_toArray, List.set_cons_zero, List.set_cons_succ, i64_w, i32_w]
       rfl
      refine pure_ (i := 26) (N := some 50) (v := undef) (a' := ?_) #[T6_,T6_,T6_,T6_,T6_,T6_,T6_,T6_,T6_,T6_,T6_,T6_,T6_,T6_,T6_,T6_,T6_,T6_,T6_,T6_,T6_,T6_,T6_,T6_,T6_,T6_,T6_,F6_,F6_,F6_,F6_,F6_,F6_,F6_,F6_,F6_,F6_,F6_,F6_,F6_,F6_,F6_,F6_,F6_,F6_] rfl rfl (any_of HT_.out (by kernel_rfl)) (fun _ _ _ h => h) (Or.inr ⟨by rfl, rfl⟩) ?_ ?_
      rotate_left
      ·simp only [Act.put, List.setIfInBounds_toArray, List.set_cons_zero, List.set_cons_succ, i64_w, i32_w]
       rfl
      refine pure_ (i := 27) (N := some 51) (v := undef) (a' := ?_) #[T6_,T6_,T6_,T6_,T6_,T6_,T6_,T6_,T6_,T6_,T6_,T6_,T6_,T6_,T6_,T6_,T6_,T6_,T6_,T6_,T6_,T6_,T6_,T6_,T6_,T6_,T6_,T6_,F6_,F6_,F6_,F6_,F6_,F6_,F6_,F6_,F6_,F6_,F6_,F6_,F6_,F6_,F6_,F6_,F6_] rfl rfl (any_of HT_.out (by kernel_rfl)) (fun _ _ _ h => h) (Or.inr ⟨by rfl, rfl⟩) ?_ ?_
      rotate_left
      ·simp only [Act.put, List.setIfInBounds_toArray, List.set_cons_zero, List.set_cons_succ, i64_w, i32_w]
       rfl
      refine pure_ (i := 28) (N := some 52) (v := ?_) (a' := ?_) #[T6_,T6_,T6_,T6_,T6_,T6_,T6_,T6_,T6_,T6_,T6_,T6_,T6_,T6_,T6_,T6_,T6_,T6_,T6_,T6_,T6_,T6_,T6_,T6_,T6_,T6_,T6_,T6_,T6_,F6_,F6_,F6_,F6_,F6_,F6_,F6_,F6_,F6_,F6_,F6_,F6_,F6_,F6_,F6_,F6_] rfl rfl (any_of HT_.out (by kernel_rfl)) (fun _ _ _ h => h) (Or.inl ⟨by rfl, ?_⟩) ?_ ?_
      rotate_left
      ·intro w'
       go_simp
       with_reducible rfl
      rotate_left
      ·simp only [Act.put, List.setIfInBounds_toArray, List.set_cons_zero, List.set_cons_succ, i64_w, i32_w]
       rfl
      refine pure_ (i := 29) (N := some 53) (v := ?_) (a' := ?_) #[T6_,T6_,T6_,T6_,T6_,T6_,T6_,T6_,T6_,T6_,T6_,T6_,T6_,T6_,T6_,T6_,T6_,T6_,T6_,T6_,T6_,T6_,T6_,T6_,T6_,T6_,T6_,T6_,T6_,T6_,F6_,F6_,F6_,F6_,F6_,F6_,F6_,F6_,F6_,F6_,F6_,F6_,F6_,F6_,F6_] rfl rfl (any_of HT_.out (by kernel_rfl)) (fun _ _ _ h => h) (Or.inl ⟨by rfl, ?_⟩) ?_ ?_
      rotate_left
      ·intro w'
       go_simp
       with_reducible rfl
      rotate_left
      ·simp only [Act.put, List.setIfInBounds_toArray, List.set_cons_zero, List.set_cons_succ, i64_w, i32_w]
       rfl
      refine pure_ (i := 30) (N := some 54) (v := undef) (a' := ?_) #[T6_,T6_,T6_,T6_,T6_,T6_,T6_,T6_,T6_,T6_,T6_,T6_,T6_,T6_,T6_,T6_,T6_,T6_,T6_,T6_,T6_,T6_,T6_,T6_,T6_,T6_,T6_,T6_,T6_,T6_,T6_,F6_,F6_,F6_,F6_,F6_,F6_,F6_,F6_,F6_,F6_,F6_,F6_,F6_,F6_] rfl rfl (any_of HT_.out (by kernel_rfl)) (fun _ _ _ h => h) (Or.inr ⟨by rfl, rfl⟩) ?_ ?_
      rotate_left
      ·simp only [Act.put, List.setIfInBounds_toArray, List.set_cons_zero, List.set_cons_succ, i64_w, i32_w]
       rfl
      refine pure_ (i := 31) (N := some 55) (v := undef) (a' := ?_) #[T6_,T6_,T6_,T6_,T6_,T6_,T6_,T6_,T6_,T6_,T6_,T6_,T6_,T6_,T6_,T6_,T6_,T6_,T6_,T6_,T6_,T6_,T6_,T6_,T6_,T6_,T6_,T6_,T6_,T6_,T6_,T6_,F6_,F6_,F6_,F6_,F6_,F6_,F6_,F6_,F6_,F6_,F6_,F6_,F6_] rfl rfl (any_of HT_.out (by kernel_rfl)) (fun _ _ _ h => h) (Or.inr ⟨by rfl, rfl⟩) ?_ ?_
      rotate_left
      ·simp only [Act.put, List.setIfInBounds_toArray, List.set_cons_zero, List.set_cons_succ, i64_w, i32_w]
       rfl
      refine pure_ (i := 32) (N := some 56) (v := undef) (a' := ?_) #[T6_,T6_,T6_,T6_,T6_,T6_,T6_,T6_,T6_,T6_,T6_,T6_,T6_,T6_,T6_,T6_,T6_,T6_,T6_,T6_,T6_,T6_,T6_,T6_,T6_,T6_,T6_,T6_,T6_,T6_,T6_,T6_,T6_,F6_,F6_,F6_,F6_,F6_,F6_,F6_,F6_,F6_,F6_,F6_,F6_] rfl rfl (any_of HT_.out (by kernel_rfl)) (fun _ _ _ h => h) (Or.inr ⟨by rfl, rfl⟩) ?_ ?_
      rotate_left
      ·simp only [Act.put, List.setIfInBounds_toArray, List.set_cons_zero, List.set_cons_succ, i64_w, i32_w]
       rfl
      refine pure_ (i := 33) (N := some 57) (v := undef) (a' := ?_) #[T6_,T6_,T6_,T6_,T6_,T6_,T6_,T6_,T6_,T6_,T6_,T6_,T6_,T6_,T6_,T6_,T6_,T6_,T6_,T6_,T6_,T6_,T6_,T6_,T6_,T6_,T6_,T6_,T6_,T6_,T6_,T6_,T6_,T6_,F6_,F6_,F6_,F6_,F6_,F6_,F6_,F6_,F6_,F6_,F6_] rfl rfl (any_of HT_.out (by kernel_rfl)) (fun _ _ _ h => h) (Or.inr ⟨by rfl, rfl⟩) ?_ ?_
      rotate_left
      ·simp only [Act.put, List.setIfInBounds_toArray, List.set_cons_zero, List.set_cons_succ, i64_w, i32_w]
       rfl
      refine pure_ (i := 34) (N := some 58) (v := undef) (a' := ?_) #[T6_,T6_,T6_,T6_,T6_,T6_,T6_,T6_,T6_,T6_,T6_,T6_,T6_,T6_,T6_,T6_,T6_,T6_,T6_,T6_,T6_,T6_,T6_,T6_,T6_,T6_,T6_,T6_,T6_,T6_,T6_,T6_,T6_,T6_,T6_,F6_,F6_,F6_,F6_,F6_,F6_,F6_,F6_,F6_,F6_] rfl rfl (any_of HT_.out (by kernel_rfl)) (fun _ _ _ h => h) (Or.inr ⟨by rfl, rfl⟩) ?_ ?_
      rotate_left
      ·simp only [Act.put, List.setIfInBounds_toArray, List.set_cons_zero, List.set_cons_succ, i64_w, i32_w]
       rfl
      refine pure_ (i := 35) (N := some 59) (v := undef) (a' := ?_) #[T6_,T6_,T6_,T6_,T6_,T6_,T6_,T6_,T6_,T6_,T6_,T6_,T6_,T6_,T6_,T6_,T6_,T6_,T6_,T6_,T6_,T6_,T6_,T6_,T6_,T6_,T6_,T6_,T6_,T6_,T6_,T6_,T6_,T6_,T6_,T6_,F6_,F6_,F6_,F6_,F6_,F6_,F6_,F6_,F6_] rfl rfl (any_of HT_.out (by kernel_rfl)) (fun _ _ _ h => h) (Or.inr ⟨by rfl, rfl⟩) ?_ ?_
      rotate_left
      ·simp only [Act.put, List.setIfInBounds_toArray, List.set_cons_zero, List.set_cons_succ, i64_w, i32_w]
       rfl
      refine pure_ (i := 36) (N := some 60) (v := undef) (a' := ?_) #[T6_,T6_,T6_,T6_,T6_,T6_,T6_,T6_,T6_,T6_,T6_,T6_,T6_,T6_,T6_,T6_,T6_,T6_,T6_,T6_,T6_,T6_,T6_,T6_,T6_,T6_,T6_,T6_,T6_,T6_,T6_,T6_,T6_,T6_,T6_,T6_,T6_,F6_,F6_,F6_,F6_,F6_,F6_,F6_,F6_] rfl rfl (any_of HT_.out (by kernel_rfl)) (fun _ _ _ h => h) (Or.inr ⟨by rfl, rfl⟩) ?_ ?_
      rotate_left
      ·simp only [Act.put, List.setIfInBounds_toArray, List.set_cons_zero, List.set_cons_succ, i64_w, i32_w]
       rfl
      refine pure_ (i := 37) (N := some 61) (v := undef) (a' := ?_) #[T6_,T6_,T6_,T6_,T6_,T6_,T6_,T6_,T6_,T6_,T6_,T6_,T6_,T6_,T6_,T6_,T6_,T6_,T6_,T6_,T6_,T6_,T6_,T6_,T6_,T6_,T6_,T6_,T6_,T6_,T6_,T6_,T6_,T6_,T6_,T6_,T6_,T6_,F6_,F6_,F6_,F6_,F6_,F6_,F6_] rfl rfl (any_of HT_.out (by kernel_rfl)) (fun _ _ _ h => h) (Or.inr ⟨by rfl, rfl⟩) ?_ ?_
      rotate_left
      ·simp only [Act.put, List.setIfInBounds_toArray, List.set_cons_zero, List.set_cons_succ, i64_w, i32_w]
       rfl
      refine pure_ (i := 38) (N := some 62) (v := undef) (a' := ?_) #[T6_,T6_,T6_,T6_,T6_,T6_,T6_,T6_,T6_,T6_,T6_,T6_,T6_,T6_,T6_,T6_,T6_,T6_,T6_,T6_,T6_,T6_,T6_,T6_,T6_,T6_,T6_,T6_,T6_,T6_,T6_,T6_,T6_,T6_,T6_,T6_,T6_,T6_,T6_,F6_,F6_,F6_,F6_,F6_,F6_] rfl rfl (any_of HT_.out (by kernel_rfl)) (fun _ _ _ h => h) (Or.inr ⟨by rfl, rfl⟩) ?_ ?_
      rotate_left
      ·simp only [Act.put, List.setIfInBounds_toArray, List.set_cons_zero, List.set_cons_succ, i64_w, i32_w]
       rfl
      refine pure_ (i := 39) (N := some 63) (v := undef) (a' := ?_) #[T6_,T6_,T6_,T6_,T6_,T6_,T6_,T6_,T6_,T6_,T6_,T6_,T6_,T6_,T6_,T6_,T6_,T6_,T6_,T6_,T6_,T6_,T6_,T6_,T6_,T6_,T6_,T6_,T6_,T6_,T6_,T6_,T6_,T6_,T6_,T6_,T6_,T6_,T6_,T6_,F6_,F6_,F6_,F6_,F6_] rfl rfl (any_of HT_.out (by kernel_rfl)) (fun _ _ _ h => h) (Or.inr ⟨by rfl, rfl⟩) ?_ ?_
      rotate_left
      ·simp only [Act.put, List.setIfInBounds_toArray, List.set_cons_zero, List.set_cons_succ, i64_w, i32_w]
       rfl
      refine pure_ (i := 40) (N := some 64) (v := undef) (a' := ?_) #[T6_,T6_,T6_,T6_,T6_,T6_,T6_,T6_,T6_,T6_,T6_,T6_,T6_,T6_,T6_,T6_,T6_,T6_,T6_,T6_,T6_,T6_,T6_,T6_,T6_,T6_,T6_,T6_,T6_,T6_,T6_,T6_,T6_,T6_,T6_,T6_,T6_,T6_,T6_,T6_,T6_,F6_,F6_,F6_,F6_] rfl rfl (any_of HT_.out (by kernel_rfl)) (fun _ _ _ h => h) (Or.inr ⟨by rfl, rfl⟩) ?_ ?_
      rotate_left
      ·simp only [Act.put, List.setIfInBounds_toArray, List.set_cons_zero, List.set_cons_succ, i64_w, i32_w]
       rfl
      refine pure_ (i := 41) (N := some 65) (v := undef) (a' := ?_) #[T6_,T6_,T6_,T6_,T6_,T6_,T6_,T6_,T6_,T6_,T6_,T6_,T6_,T6_,T6_,T6_,T6_,T6_,T6_,T6_,T6_,T6_,T6_,T6_,T6_,T6_,T6_,T6_,T6_,T6_,T6_,T6_,T6_,T6_,T6_,T6_,T6_,T6_,T6_,T6_,T6_,T6_,F6_,F6_,F6_] rfl rfl (any_of HT_.out (by kernel_rfl)) (fun _ _ _ h => h) (Or.inr ⟨by rfl, rfl⟩) ?_ ?_
      rotate_left
      ·simp only [Act.put, List.setIfInBounds_toArray, List.set_cons_zero, List.set_cons_succ, i64_w, i32_w]
       rfl
      refine pure_ (i := 42) (N := some 66) (v := undef) (a' := ?_) #[T6_,T6_,T6_,T6_,T6_,T6_,T6_,T6_,T6_,T6_,T6_,T6_,T6_,T6_,T6_,T6_,T6_,T6_,T6_,T6_,T6_,T6_,T6_,T6_,T6_,T6_,T6_,T6_,T6_,T6_,T6_,T6_,T6_,T6_,T6_,T6_,T6_,T6_,T6_,T6_,T6_,T6_,T6_,F6_,F6_] rfl rfl (any_of HT_.out (by kernel_rfl)) (fun _ _ _ h => h) (Or.inr ⟨by rfl, rfl⟩) ?_ ?_
      rotate_left
      ·simp only [Act.put, List.setIfInBounds_toArray, List.set_cons_zero, List.set_cons_succ, i64_w, i32_w]
       rfl
      refine pure_ (i := 43) (N := some 67) (v := undef) (a' := ?_) #[T6_,T6_,T6_,T6_,T6_,T6_,T6_,T6_,T6_,T6_,T6_,T6_,T6_,T6_,T6_,T6_,T6_,T6_,T6_,T6_,T6_,T6_,T6_,T6_,T6_,T6_,T6_,T6_,T6_,T6_,T6_,T6_,T6_,T6_,T6_,T6_,T6_,T6_,T6_,T6_,T6_,T6_,T6_,T6_,F6_] rfl rfl (any_of HT_.out (by kernel_rfl)) (fun _ _ _ h => h) (Or.inr ⟨by rfl, rfl⟩) ?_ ?_
      rotate_left
      ·simp only [Act.put, List.setIfInBounds_toArray, List.set_cons_zero, List.set_cons_succ, i64_w, i32_w]
       rfl
      refine pure_ (i := 44) (N := some 68) (v := ?_) (a' := ?_) #[T6_,T6_,T6_,T6_,T6_,T6_,T6_,T6_,T6_,T6_,T6_,T6_,T6_,T6_,T6_,T6_,T6_,T6_,T6_,T6_,T6_,T6_,T6_,T6_,T6_,T6_,T6_,T6_,T6_,T6_,T6_,T6_,T6_,T6_,T6_,T6_,T6_,T6_,T6_,T6_,T6_,T6_,T6_,T6_,T6_] rfl rfl (any_of HT_.out (by kernel_rfl)) (fun _ _ _ h => h) (Or.inl ⟨by rfl, ?_⟩) ?_ ?_
      rotate_left
      ·intro w'
       go_simp
       with_reducible rfl
      rotate_left
      ·simp only [Act.put, List.setIfInBounds_toArray, List.set_cons_zero, List.set_cons_succ, i64_w, i32_w]
       rfl
      refine done_ (done_of HT_.out (by kernel_rfl)) ?_
      try go_wp2
      go_meet
      case rel => exact ⟨_, (true), (by first | rfl | (simp; done) | (simp [*]; done)), H', ⟨by first | omega | exact Nat.le_refl _⟩, ⟨HBu HB.out⟩⟩
     ·rw [if_neg c12] at H
      have c12b0 : decide (a3 < 1) = false := decide_eq_false c12
      clear c12
      by_cases c14 : a3 > 4096
      ·rw [if_pos c14] at H
       have c14b0 : decide (4096 < a3) = true := decide_eq_true c14
       clear c14
       have H' := Aside0.mk H
       clear H
       try go_wp2
       replace HB := Aside0.mk (below_drew1 HB.out)
       refine start_ (n := 45) (S := fun w' => True) (ds := []) #[F6_,F6_,F6_,F6_,F6_,F6_,F6_,F6_,F6_,F6_,F6_,F6_,F6_,F6_,F6_,F6_,F6_,F6_,F6_,F6_,F6_,F6_,F6_,F6_,F6_,F6_,F6_,F6_,F6_,F6_,F6_,F6_,F6_,F6_,F6_,F6_,F6_,F6_,F6_,F6_,F6_,F6_,F6_,F6_,F6_] (by kernel_rfl) rfl rfl trivial (fun hHeld => ?_); refine with_tabW impl_foldPairs.tab2 impl_foldPairs.bits2 (fun HT_ HW_ => ?_)
       generalize w.drew = w15 at HB hHeld ⊢
       refine pure_ (i := 0) (N := some 24) (v := ?_) (a' := ?_) #[T6_,F6_,F6_,F6_,F6_,F6_,F6_,F6_,F6_,F6_,F6_,F6_,F6_,F6_,F6_,F6_,F6_,F6_,F6_,F6_,F6_,F6_,F6_,F6_,F6_,F6_,F6_,F6_,F6_,F6_,F6_,F6_,F6_,F6_,F6_,F6_,F6_,F6_,F6_,F6_,F6_,F6_,F6_,F6_,F6_] rfl rfl (any_of HT_.out (by kernel_rfl)) (fun _ _ _ h => h) (Or.inl ⟨by rfl, ?_⟩) ?_ ?_
       rotate_left
       ·intro w'
        go_simp
        with_reducible rfl
       rotate_left
       ·simp only [Act.put, List.setIfInBounds_toArray, List.set_cons_zero, List.set_cons_succ, i64_w, i32_w]
        rfl
       refine pure_ (i := 1) (N := some 25) (v := ?_) (a' := ?_) #[T6_,T6_,F6_,F6_,F6_,F6_,F6_,F6_,F6_,F6_,F6_,F6_,F6_,F6_,F6_,F6_,F6_,F6_,F6_,F6_,F6_,F6_,F6_,F6_,F6_,F6_,F6_,F6_,F6_,F6_,F6_,F6_,F6_,F6_,F6_,F6_,F6_,F6_,F6_,F6_,F6_,F6_,F6_,F6_,F6_] rfl rfl (any_of HT_.out (by kernel_rfl)) (fun _ _ _ h => h) (Or.inl ⟨by rfl, ?_⟩) ?_ ?_
       rotate_left
       ·intro w'
        go_simp
        with_reducible rfl
       rotate_left
       ·simp only [Act.put, List.setIfInBounds_toArray, List.set_cons_zero, List.set_cons_succ, i64_w, i32_w]
        rfl
       refine one_ (i := 2) (N := some 26) #[T6_,T6_,T6_,F6_,F6_,F6_,F6_,F6_,F6_,F6_,F6_,F6_,F6_,F6_,F6_,F6_,F6_,F6_,F6_,F6_,F6_,F6_,F6_,F6_,F6_,F6_,F6_,F6_,F6_,F6_,F6_,F6_,F6_,F6_,F6_,F6_,F6_,F6_,F6_,F6_,F6_,F6_,F6_,F6_,F6_] rfl rfl (one_of HT_.out (by kernel_rfl)) (by decide) (fun K hK => ?_)
       refine goes_ Try.func78 (by kernel_rfl) rfl #[.slice A0 l0.length c0, .int .i64 a1] (by rfl) rfl rfl (by (try simp only [List.map_toArray, List.map_cons, List.map_nil]); first | done | rfl | (simp only [List.length_drop, List.length_take]; rfl)) ?_
       with_reducible refine (impl_isAxis.calls _ _ l0 a1 true _ ?side1 ?side2 A6.out).mono ?_
       (case side1 => exact (Cu ((Kd.C_below HR0.out HB.out))))
       (case side2 => exact HC0.out)
       rintro e w' ⟨rfl, ⟨nd, rfl⟩⟩
       refine ⟨_, rfl, ?_⟩
       refine hK.out _ _ trivial (fun hHeld => ?_)
       clear hK K
       refine norm_ (a' := ?_) ?_ ?_
       rotate_left
       ·show Act.put _ (some 26) _ = _
        simp only [Act.put, List.setIfInBounds_toArray, List.set_cons_zero, List.set_cons_succ, i64_w, i32_w]
        rfl
       refine pure_ (i := 3) (N := some 27) (v := ?_) (a' := ?_) #[T6_,T6_,T6_,T6_,F6_,F6_,F6_,F6_,F6_,F6_,F6_,F6_,F6_,F6_,F6_,F6_,F6_,F6_,F6_,F6_,F6_,F6_,F6_,F6_,F6_,F6_,F6_,F6_,F6_,F6_,F6_,F6_,F6_,F6_,F6_,F6_,F6_,F6_,F6_,F6_,F6_,F6_,F6_,F6_,F6_] rfl rfl (any_of HT_.out (by kernel_rfl)) (fun _ _ _ h => h) (Or.inl ⟨by rfl, ?_⟩) ?_ ?_
       rotate_left
       ·intro w'
        go_simp
        with_reducible rfl
       rotate_left
       ·simp only [Act.put, List.setIfInBounds_toArray, List.set_cons_zero, List.set_cons_succ, i64_w, i32_w]
        rfl
       refine pure_ (i := 4) (N := some 28) (v := ?_) (a' := ?_) #[T6_,T6_,T6_,T6_,T6_,F6_,F6_,F6_,F6_,F6_,F6_,F6_,F6_,F6_,F6_,F6_,F6_,F6_,F6_,F6_,F6_,F6_,F6_,F6_,F6_,F6_,F6_,F6_,F6_,F6_,F6_,F6_,F6_,F6_,F6_,F6_,F6_,F6_,F6_,F6_,F6_,F6_,F6_,F6_,F6_] rfl rfl (any_of HT_.out (by kernel_rfl)) (fun _ _ _ h => h) (Or.inl ⟨by rfl, ?_⟩) ?_ ?_
       rotate_left
       ·intro w'
        go_simp
        with_reducible rfl
       rotate_left
       ·simp only [Act.put, List.setIfInBounds_toArray, List.set_cons_zero, List.set_cons_succ, i64_w, i32_w]
        rfl
       refine pure_ (i := 5) (N := some 29) (v := ?_) (a' := ?_) #[T6_,T6_,T6_,T6_,T6_,T6_,F6_,F6_,F6_,F6_,F6_,F6_,F6_,F6_,F6_,F6_,F6_,F6_,F6_,F6_,F6_,F6_,F6_,F6_,F6_,F6_,F6_,F6_,F6_,F6_,F6_,F6_,F6_,F6_,F6_,F6_,F6_,F6_,F6_,F6_,F6_,F6_,F6_,F6_,F6_] rfl rfl (any_of HT_.out (by kernel_rfl)) (fun _ _ _ h => h) (Or.inl ⟨by rfl, ?_⟩) ?_ ?_
       rotate_left
       ·intro w'
        go_simp
        with_reducible rfl
       rotate_left
       ·simp only [Act.put, List.setIfInBounds_toArray, List.set_cons_zero, List.set_cons_succ, i64_w, i32_w]
        rfl
       refine pure_ (i := 6) (N := some 30) (v := ?_) (a' := ?_) #[T6_,T6_,T6_,T6_,T6_,T6_,T6_,F6_,F6_,F6_,F6_,F6_,F6_,F6_,F6_,F6_,F6_,F6_,F6_,F6_,F6_,F6_,F6_,F6_,F6_,F6_,F6_,F6_,F6_,F6_,F6_,F6_,F6_,F6_,F6_,F6_,F6_,F6_,F6_,F6_,F6_,F6_,F6_,F6_,F6_] rfl rfl (any_of HT_.out (by kernel_rfl)) (fun _ _ _ h => h) (Or.inl ⟨by rfl, ?_⟩) ?_ ?_
       rotate_left
       ·intro w'
        go_simp
        with_reducible rfl
       rotate_left
       ·simp only [Act.put, List.setIfInBounds_toArray, List.set_cons_zero, List.set_cons_succ, i64_w, i32_w]
        rfl
       refine pure_ (i := 7) (N := some 31) (v := ?_) (a' := ?_) #[T6_,T6_,T6_,T6_,T6_,T6_,T6_,T6_,F6_,F6_,F6_,F6_,F6_,F6_,F6_,F6_,F6_,F6_,F6_,F6_,F6_,F6_,F6_,F6_,F6_,F6_,F6_,F6_,F6_,F6_,F6_,F6_,F6_,F6_,F6_,F6_,F6_,F6_,F6_,F6_,F6_,F6_,F6_,F6_,F6_] rfl rfl (any_of HT_.out (by kernel_rfl)) (fun _ _ _ h => h) (Or.inl ⟨by rfl, ?_⟩) ?_ ?_
       rotate_left
       ·intro w'
        go_simp
        with_reducible rfl
       rotate_left
       ·simp only [Act.put, List.setIfInBounds_toArray, List.set_cons_zero, List.set_cons_succ, i64_w, i32_w]
        rfl
       refine pure_ (i := 8) (N := some 32) (v := ?_) (a' := ?_) #[T6_,T6_,T6_,T6_,T6_,T6_,T6_,T6_,T6_,F6_,F6_,F6_,F6_,F6_,F6_,F6_,F6_,F6_,F6_,F6_,F6_,F6_,F6_,F6_,F6_,F6_,F6_,F6_,F6_,F6_,F6_,F6_,F6_,F6_,F6_,F6_,F6_,F6_,F6_,F6_,F6_,F6_,F6_,F6_,F6_] rfl rfl (any_of HT_.out (by kernel_rfl)) (fun _ _ _ h => h) (Or.inl ⟨by rfl, ?_⟩) ?_ ?_
       rotate_left
       ·intro w'
        go_simp
        with_reducible rfl
       rotate_left
       ·simp only [Act.put, List.setIfInBounds_toArray, List.set_cons_zero, List.set_cons_succ, i64_w, i32_w]
        rfl
       refine pure_ (i := 9) (N := some 33) (v := ?_) (a' := ?_) #[T6_,T6_,T6_,T6_,T6_,T6_,T6_,T6_,T6_,T6_,F6_,F6_,F6_,F6_,F6_,F6_,F6_,F6_,F6_,F6_,F6_,F6_,F6_,F6_,F6_,F6_,F6_,F6_,F6_,F6_,F6_,F6_,F6_,F6_,F6_,F6_,F6_,F6_,F6_,F6_,F6_,F6_,F6_,F6_,F6_] rfl rfl (any_of HT_.out (by kernel_rfl)) (fun _ _ _ h => h) (Or.inl ⟨by rfl, ?_⟩) ?_ ?_
       rotate_left
       ·intro w'
        go_simp
        with_reducible rfl
       rotate_left
       ·simp only [Act.put, List.setIfInBounds_toArray, List.set_cons_zero, List.set_cons_succ, i64_w, i32_w]
        rfl
       refine pure_ (i := 10) (N := some 34) (v := ?_) (a' := ?_) #[T6_,T6_,T6_,T6_,T6_,T6_,T6_,T6_,T6_,T6_,T6_,F6_,F6_,F6_,F6_,F6_,F6_,F6_,F6_,F6_,F6_,F6_,F6_,F6_,F6_,F6_,F6_,F6_,F6_,F6_,F6_,F6_,F6_,F6_,F6_,F6_,F6_,F6_,F6_,F6_,F6_,F6_,F6_,F6_,F6_] rfl rfl (any_of HT_.out (by kernel_rfl)) (fun _ _ _ h => h) (Or.inl ⟨by rfl, ?_⟩) ?_ ?_
       rotate_left
       ·intro w'
        go_simp
        with_reducible rfl
       rotate_left
       ·simp only [Act.put, List.setIfInBounds_toArray, List.set_cons_zero, List.set_cons_succ, i64_w, i32_w]
        rfl
       refine pure_ (i := 11) (N := some 35) (v := ?_) (a' := ?_) #[T6_,T6_,T6_,T6_,T6_,T6_,T6_,T6_,T6_,T6_,T6_,T6_,F6_,F6_,F6_,F6_,F6_,F6_,F6_,F6_,F6_,F6_,F6_,F6_,F6_,F6_,F6_,F6_,F6_,F6_,F6_,F6_,F6_,F6_,F6_,F6_,F6_,F6_,F6_,F6_,F6_,F6_,F6_,F6_,F6_] rfl rfl (any_of HT_.out (by kernel_rfl)) (fun _ _ _ h => h) (Or.inl ⟨by rfl, ?_⟩) ?_ ?_
       rotate_left
       ·intro w'
        go_simp
        with_reducible rfl
       rotate_left
       ·simp only [Act.put, List.setIfInBounds_toArray, List.set_cons_zero, List.set_cons_succ, i64_w, i32_w]
        rfl
       refine pure_ (i := 12) (N := some 36) (v := ?_) (a' := ?_) #[T6_,T6_,T6_,T6_,T6_,T6_,T6_,T6_,T6_,T6_,T6_,T6_,T6_,F6_,F6_,F6_,F6_,F6_,F6_,F6_,F6_,F6_,F6_,F6_,F6_,F6_,F6_,F6_,F6_,F6_,F6_,F6_,F6_,F6_,F6_,F6_,F6_,F6_,F6_,F6_,F6_,F6_,F6_,F6_,F6_] rfl rfl (any_of HT_.out (by kernel_rfl)) (fun _ _ _ h => h) (Or.inl ⟨by rfl, ?_⟩) ?_ ?_
       rotate_left
       ·intro w'
        go_simp
        with_reducible rfl
       rotate_left
       ·simp only [Act.put, List.setIfInBounds_toArray, List.set_cons_zero, List.set_cons_succ, i64_w, i32_w]
        rfl
       refine pure_ (i := 13) (N := some 37) (v := ?_) (a' := ?_) #[T6_,T6_,T6_,T6_,T6_,T6_,T6_,T6_,T6_,T6_,T6_,T6_,T6_,T6_,F6_,F6_,F6_,F6_,F6_,F6_,F6_,F6_,F6_,F6_,F6_,F6_,F6_,F6_,F6_,F6_,F6_,F6_,F6_,F6_,F6_,F6_,F6_,F6_,F6_,F6_,F6_,F6_,F6_,F6_,F6_] rfl rfl (any_of HT_.out (by kernel_rfl)) (fun _ _ _ h => h) (Or.inl ⟨by rfl, ?_⟩) ?_ ?_
       rotate_left
       ·intro w'
        go_simp
        with_reducible rfl
       rotate_left
       ·simp only [Act.put, List.setIfInBounds_toArray, List.set_cons_zero, List.set_cons_succ, i64_w, i32_w]
        rfl
       refine pure_ (i := 14) (N := some 38) (v := ?_) (a' := ?_) #[T6_,T6_,T6_,T6_,T6_,T6_,T6_,T6_,T6_,T6_,T6_,T6_,T6_,T6_,T6_,F6_,F6_,F6_,F6_,F6_,F6_,F6_,F6_,F6_,F6_,F6_,F6_,F6_,F6_,F6_,F6_,F6_,F6_,F6_,F6_,F6_,F6_,F6_,F6_,F6_,F6_,F6_,F6_,F6_,F6_] rfl rfl (any_of HT_.out (by kernel_rfl)) (fun _ _ _ h => h) (Or.inl ⟨by rfl, ?_⟩) ?_ ?_
       rotate_left
       ·intro w'
        go_simp
        with_reducible rfl
       rotate_left
       ·simp only [Act.put, List.setIfInBounds_toArray, List.set_cons_zero, List.set_cons_succ, i64_w, i32_w]
        rfl
       refine pure_ (i := 15) (N := some 39) (v := ?_) (a' := ?_) #[T6_,T6_,T6_,T6_,T6_,T6_,T6_,T6_,T6_,T6_,T6_,T6_,T6_,T6_,T6_,T6_,F6_,F6_,F6_,F6_,F6_,F6_,F6_,F6_,F6_,F6_,F6_,F6_,F6_,F6_,F6_,F6_,F6_,F6_,F6_,F6_,F6_,F6_,F6_,F6_,F6_,F6_,F6_,F6_,F6_] rfl rfl (any_of HT_.out (by kernel_rfl)) (fun _ _ _ h => h) (Or.inl ⟨by rfl, ?_⟩) ?_ ?_
       rotate_left
       ·intro w'
        go_simp
        with_reducible rfl
       rotate_left
       ·simp only [Act.put, List.setIfInBounds_toArray, List.set_cons_zero, List.set_cons_succ, i64_w, i32_w]
        rfl
       refine pure_ (i := 16) (N := some 40) (v := ?_) (a' := ?_) #[T6_,T6_,T6_,T6_,T6_,T6_,T6_,T6_,T6_,T6_,T6_,T6_,T6_,T6_,T6_,T6_,T6_,F6_,F6_,F6_,F6_,F6_,F6_,F6_,F6_,F6_,F6_,F6_,F6_,F6_,F6_,F6_,F6_,F6_,F6_,F6_,F6_,F6_,F6_,F6_,F6_,F6_,F6_,F6_,F6_] rfl rfl (any_of HT_.out (by kernel_rfl)) (fun _ _ _ h => h) (Or.inl ⟨by rfl, ?_⟩) ?_ ?_
       rotate_left
       ·intro w'
        go_simp
        with_reducible rfl
       rotate_left
       ·simp only [Act.put, List.setIfInBounds_toArray, List.set_cons_zero, List.set_cons_succ, i64_w, i32_w]
        rfl
       refine pure_ (i := 17) (N := some 41) (v := ?_) (a' := ?_) #[T6_,T6_,T6_,T6_,T6_,T6_,T6_,T6_,T6_,T6_,T6_,T6_,T6_,T6_,T6_,T6_,T6_,T6_,F6_,F6_,F6_,F6_,F6_,F6_,F6_,F6_,F6_,F6_,F6_,F6_,F6_,F6_,F6_,F6_,F6_,F6_,F6_,F6_,F6_,F6_,F6_,F6_,F6_,F6_,F6_] rfl rfl (any_of HT_.out (by kernel_rfl)) (fun _ _ _ h => h) (Or.inl ⟨by rfl, ?_⟩) ?_ ?_
       rotate_left
       ·intro w'
        go_simp
        with_reducible rfl
       rotate_left
       ·simp only [Act.put, List.setIfInBounds_toArray, List.set_cons_zero, List.set_cons_succ, i64_w, i32_w]
        rfl
       refine pure_ (i := 18) (N := some 42) (v := ?_) (a' := ?_) #[T6_,T6_,T6_,T6_,T6_,T6_,T6_,T6_,T6_,T6_,T6_,T6_,T6_,T6_,T6_,T6_,T6_,T6_,T6_,F6_,F6_,F6_,F6_,F6_,F6_,F6_,F6_,F6_,F6_,F6_,F6_,F6_,F6_,F6_,F6_,F6_,F6_,F6_,F6_,F6_,F6_,F6_,F6_,F6_,F6_] rfl rfl (any_of HT_.out (by kernel_rfl)) (fun _ _ _ h => h) (Or.inl ⟨by rfl, ?_⟩) ?_ ?_
       rotate_left
       ·intro w'
        go_simp
        with_reducible rfl
       rotate_left
       ·simp only [Act.put, List.setIfInBounds_toArray, List.set_cons_zero, List.set_cons_succ, i64_w, i32_w]
        rfl
       refine pure_ (i := 19) (N := some 43) (v := ?_) (a' := ?_) #[T6_,T6_,T6_,T6_,T6_,T6_,T6_,T6_,T6_,T6_,T6_,T6_,T6_,T6_,T6_,T6_,T6_,T6_,T6_,T6_,F6_,F6_,F6_,F6_,F6_,F6_,F6_,F6_,F6_,F6_,F6_,F6_,F6_,F6_,F6_,F6_,F6_,F6_,F6_,F6_,F6_,F6_,F6_,F6_,F6_] rfl rfl (any_of HT_.out (by kernel_rfl)) (fun _ _ _ h => h) (Or.inl ⟨by rfl, ?_⟩) ?_ ?_
       rotate_left
       ·intro w'
        go_simp
        with_reducible rfl
       rotate_left
       ·simp only [Act.put, List.setIfInBounds_toArray, List.set_cons_zero, List.set_cons_succ, i64_w, i32_w]
        rfl
       refine pure_ (i := 20) (N := some 44) (v := ?_) (a' := ?_) #[T6_,T6_,T6_,T6_,T6_,T6_,T6_,T6_,T6_,T6_,T6_,T6_,T6_,T6_,T6_,T6_,T6_,T6_,T6_,T6_,T6_,F6_,F6_,F6_,F6_,F6_,F6_,F6_,F6_,F6_,F6_,F6_,F6_,F6_,F6_,F6_,F6_,F6_,F6_,F6_,F6_,F6_,F6_,F6_,F6_] rfl rfl (any_of HT_.out (by kernel_rfl)) (fun _ _ _ h => h) (Or.inl ⟨by rfl, ?_⟩) ?_ ?_
       rotate_left
       ·intro w'
        go_simp
        with_reducible rfl
       rotate_left
       ·simp only [Act.put, List.setIfInBounds_toArray, List.set_cons_zero, List.set_cons_succ, i64_w, i32_w]
        rfl
       refine pure_ (i := 21) (N := some 45) (v := ?_) (a' := ?_) #[T6_,T6_,T6_,T6_,T6_,T6_,T6_,T6_,T6_,T6_,T6_,T6_,T6_,T6_,T6_,T6_,T6_,T6_,T6_,T6_,T6_,T6_,F6_,F6_,F6_,F6_,F6_,F6_,F6_,F6_,F6_,F6_,F6_,F6_,F6_,F6_,F6_,F6_,F6_,F6_,F6_,F6_,F6_,F6_,F6_] rfl rfl (any_of HT_.out (by kernel_rfl)) (fun _ _ _ h => h) (Or.inl ⟨by rfl, ?_⟩) ?_ ?_
       rotate_left
       ·intro w'
        go_simp
        with_reducible rfl
       rotate_left
       ·simp only [Act.put, List.setIfInBounds_toArray, List.set_cons_zero, List.set_cons_succ, i64_w, i32_w]
        rfl
       refine pure_ (i := 22) (N := some 46) (v := undef) (a' := ?_) #[T6_,T6_,T6_,T6_,T6_,T6_,T6_,T6_,T6_,T6_,T6_,T6_,T6_,T6_,T6_,T6_,T6_,T6_,T6_,T6_,T6_,T6_,T6_,F6_,F6_,F6_,F6_,F6_,F6_,F6_,F6_,F6_,F6_,F6_,F6_,F6_,F6_,F6_,F6_,F6_,F6_,F6_,F6_,F6_,F6_] rfl rfl (any_of HT_.out (by kernel_rfl)) (fun _ _ _ h => h) (Or.inr ⟨by rfl, rfl⟩) ?_ ?_
       rotate_left
       ·simp only [Act.put, List.setIfInBounds_toArray, List.set_cons_zero, List.set_cons_succ, i64_w, i32_w]
        rfl
       refine pure_ (i := 23) (N := some 47) (v := undef) (a' := ?_) #[T6_,T6_,T6_,T6_,T6_,T6_,T6_,T6_,T6_,T6_,T6_,T6_,T6_,T6_,T6_,T6_,T6_,T6_,T6_,T6_,T6_,T6_,T6_,T6_,F6_,F6_,F6_,F6_,F6_,F6_,F6_,F6_,F6_,F6_,F6_,F6_,F6_,F6_,F6_,F6_,F6_,F6_,F6_,F6_,F6_] rfl rfl (any_of HT_.out (by kernel_rfl)) (fun _ _ _ h => h) (Or.inr ⟨by rfl, rfl⟩) ?_ ?_
       rotate_left
       ·simp only [Act.put, List.setIfInBounds_toArray, List.set_cons_zero, List.set_cons_succ, i64_w, i32_w]
        rfl
       refine pure_ (i := 24) (N := some 48) (v := undef) (a' := ?_) #[T6_,T6_,T6_,T6_,T6_,T6_,T6_,T6_,T6_,T6_,T6_,T6_,T6_,T6_,T6_,T6_,T6_,T6_,T6_,T6_,T6_,T6_,T6_,T6_,T6_,F6_,F6_,F6_,F6_,F6_,F6_,F6_,F6_,F6_,F6_,F6_,F6_,F6_,F6_,F6_,F6_,F6_,F6_,F6_,F6_] rfl rfl (any_of HT_.out (by kernel_rfl)) (fun _ _ _ h => h) (Or.inr ⟨by rfl, rfl⟩) ?_ ?_
       rotate_left
       ·simp only [Act.put, List.setIfInBounds_toArray, List.set_cons_zero, List.set_cons_succ, i64_w, i32_w]
        rfl
       refine pure_ (i := 25) (N := some 49) (v := undef) (a' := ?_) #[T6_,T6_,T6_,T6_,T6_,T6_,T6_,T6_,T6_,T6_,T6_,T6_,T6_,T6_,T6_,T6_,T6_,T6_,T6_,T6_,T6_,T6_,T6_,T6_,T6_,T6_,F6_,F6_,F6_,F6_,F6_,F6_,F6_,F6_,F6_,F6_,F6_,F6_,F6_,F6_,F6_,F6_,F6_,F6_,F6_] rfl rfl (any_of HT_.out (by kernel_rfl)) (fun _ _ _ h => h) (Or.inr ⟨by rfl, rfl⟩) ?_ ?_
       rotate_left
       ·simp only [Act.put, List.setIfInBounds_toArray, List.set_cons_zero, List.set_cons_succ, i64_w, i32_w]
        rfl
       refine pure_ (i := 26) (N := some 50) (v := undef) (a' := ?_) #[T6_,T6_,T6_,T6_,T6_,T6_,T6_,T6_,T6_,T6_,T6_,T6_,T6_,T6_,T6_,T6_,T6_,T6_,T6_,T6_,T6_,T6_,T6_,T6_,T6_,T6_,T6_,F6_,F6_,F6_,F6_,F6_,F6_,F6_,F6_,F6_,F6_,F6_,F6_,F6_,F6_,F6_,F6_,F6_,F6_] rfl rfl (any_of HT_.out (by kernel_rfl)) (fun _ _ _ h => h) (Or.inr ⟨by rfl, rfl⟩) ?_ ?_
       rotate_left
       ·simp only [Act.put, List.setIfInBounds_toArray, List.set_cons_zero, List.set_cons_succ, i64_w, i32_w]
        rfl
       refine pure_ (i := 27) (N := some 51) (v := undef) (a' := ?_) #[T6_,T6_,T6_,T6_,T6_,T6_,T6_,T6_,T6_,T6_,T6_,T6_,T6_,T6_,T6_,T6_,T6_,T6_,T6_,T6_,T6_,T6_,T6_,T6_,T6_,T6_,T6_,T6_,F6_,F6_,F6_,F6_,F6_,F6_,F6_,F6_,F6_,F6_,F6_,F6_,F6_,F6_,F6_,F6_,F6_] rfl rfl (any_of HT_.out (by kernel_rfl)) (fun _ _ _ h => h) (Or.inr ⟨by rfl, rfl⟩) ?_ ?_
       rotate_left
       ·simp only [Act.put, List.setIfInBounds_toArray, List.set_cons_zero, List.set_cons_succ, i64_w, i32_w]
        rfl
       refine pure_ (i := 28) (N := some 52) (v := ?_) (a' := ?_) #[T6_,T6_,T6_,T6_,T6_,T6_,T6_,T6_,T6_,T6_,T6_,T6_,T6_,T6_,T6_,T6_,T6_,T6_,T6_,T6_,T6_,T6_,T6_,T6_,T6_,T6_,T6_,T6_,T6_,F6_,F6_,F6_,F6_,F6_,F6_,F6_,F6_,F6_,F6_,F6_,F6_,F6_,F6_,F6_,F6_] rfl rfl (any_of HT_.out (by kernel_rfl)) (fun _ _ _ h => h) (Or.inl ⟨by rfl, ?_⟩) ?_ ?_
       rotate_left
       ·intro w'
        go_simp
        with_reducible rfl
       rotate_left
       ·simp only [Act.put, List.setIfInBounds_toArray, List.set_cons_zero, List.set_cons_succ, i64_w, i32_w]
        rfl
       refine pure_ (i := 29) (N := some 53) (v := ?_) (a' := ?_) #[T6_,T6_,T6_,T6_,T6_,T6_,T6_,T6_,T6_,T6_,T6_,T6_,T6_,T6_,T6_,T6_,T6_,T6_,T6_,T6_,T6_,T6_,T6_,T6_,T6_,T6_,T6_,T6_,T6_,T6_,F6_,F6_,F6_,F6_,F6_,F6_,F6_,F6_,F6_,F6_,F6_,F6_,F6_,F6_,F6_] rfl rfl (any_of HT_.out (by kernel_rfl)) (fun _ _ _ h => h) (Or.inl ⟨by rfl, ?_⟩) ?_ ?_
       rotate_left
       ·intro w'
        go_simp
        with_reducible rfl
       rotate_left
       ·simp only [Act.put, List.setIfInBounds_toArray, List.set_cons_zero, List.set_cons_succ, i64_w, i32_w]
        rfl
       refine pure_ (i := 30) (N := some 54) (v := undef) (a' := ?_) #[T6_,T6_,T6_,T6_,T6_,T6_,T6_,T6_,T6_,T6_,T6_,T6_,T6_,T6_,T6_,T6_,T6_,T6_,T6_,T6_,T6_,T6_,T6_,T6_,T6_,T6_,T6_,T6_,T6_,T6_,T6_,F6_,F6_,F6_,F6_,F6_,F6_,F6_,F6_,F6_,F6_,F6_,F6_,F6_,F6_] rfl rfl (any_of HT_.out (by kernel_rfl)) (fun _ _ _ h => h) (Or.inr ⟨by rfl, rfl⟩) ?_ ?_
       rotate_left
       ·simp only [Act.put, List.setIfInBounds_toArray, List.set_cons_zero, List.set_cons_succ, i64_w, i32_w]
        rfl
       refine pure_ (i := 31) (N := some 55) (v := undef) (a' := ?_) #[T6_,T6_,T6_,T6_,T6_,T6_,T6_,T6_,T6_,T6_,T6_,T6_,T6_,T6_,T6_,T6_,T6_,T6_,T6_,T6_,T6_,T6_,T6_,T6_,T6_,T6_,T6_,T6_,T6_,T6_,T6_,T6_,F6_,F6_,F6_,F6_,F6_,F6_,F6_,F6_,F6_,F6_,F6_,F6_,F6_] rfl rfl (any_of HT_.out (by kernel_rfl)) (fun _ _ _ h => h) (Or.inr ⟨by rfl, rfl⟩) ?_ ?_
       rotate_left
       ·simp only [Act.put, List.setIfInBounds_toArray, List.set_cons_zero, List.set_cons_succ, i64_w, i32_w]
        rfl
       refine pure_ (i := 32) (N := some 56) (v := undef) (a' := ?_) #[T6_,T6_,T6_,T6_,T6_,T6_,T6_,T6_,T6_,T6_,T6_,T6_,T6_,T6_,T6_,T6_,T6_,T6_,T6_,T6_,T6_,T6_,T6_,T6_,T6_,T6_,T6_,T6_,T6_,T6_,T6_,T6_,T6_,F6_,F6_,F6_,F6_,F6_,F6_,F6_,F6_,F6_,F6_,F6_,F6_] rfl rfl (any_of HT_.out (by kernel_rfl)) (fun _ _ _ h => h) (Or.inr ⟨by rfl, rfl⟩) ?_ ?_
       rotate_left
       ·simp only [Act.put, List.setIfInBounds_toArray, List.set_cons_zero, List.set_cons_succ, i64_w, i32_w]
        rfl
       refine pure_ (i := 33) (N := some 57) (v := undef) (a' := ?_) #[T6_,T6_,T6_,T6_,T6_,T6_,T6_,T6_,T6_,T6_,T6_,T6_,T6_,T6_,T6_,T6_,T6_,T6_,T6_,T6_,T6_,T6_,T6_,T6_,T6_,T6_,T6_,T6_,T6_,T6_,T6_,T6_,T6_,T6_,F6_,F6_,F6_,F6_,F6_,F6_,F6_,F6_,F6_,F6_,F6_] rfl rfl (any_of HT_.out (by kernel_rfl)) (fun _ _ _ h => h) (Or.inr ⟨by rfl, rfl⟩) ?_ ?_
       rotate_left
       ·simp only [Act.put, List.setIfInBounds_toArray, List.set_cons_zero, List.set_cons_succ, i64_w, i32_w]
        rfl
       refine pure_ (i := 34) (N := some 58) (v := undef) (a' := ?_) #[T6_,T6_,T6_,T6_,T6_,T6_,T6_,T6_,T6_,T6_,T6_,T6_,T6_,T6_,T6_,T6_,T6_,T6_,T6_,T6_,T6_,T6_,T6_,T6_,T6_,T6_,T6_,T6_,T6_,T6_,T6_,T6_,T6_,T6_,T6_,F6_,F6_,F6_,F6_,F6_,F6_,F6_,F6_,F6_,F6_] rfl rfl (any_of HT_.out (by kernel_rfl)) (fun _ _ _ h => h) (Or.inr ⟨by rfl, rfl⟩) ?_ ?_
       rotate_left
       ·simp only [Act.put, List.setIfInBounds_toArray, List.set_cons_zero, List.set_cons_succ, i64_w, i32_w]
        rfl
       refine pure_ (i := 35) (N := some 59) (v := undef) (a' := ?_) #[T6_,T6_,T6_,T6_,T6_,T6_,T6_,T6_,T6_,T6_,T6_,T6_,T6_,T6_,T6_,T6_,T6_,T6_,T6_,T6_,T6_,T6_,T6_,T6_,T6_,T6_,T6_,T6_,T6_,T6_,T6_,T6_,T6_,T6_,T6_,T6_,F6_,F6_,F6_,F6_,F6_,F6_,F6_,F6_,F6_] rfl rfl (any_of HT_.out (by kernel_rfl)) (fun _ _ _ h => h) (Or.inr ⟨by rfl, rfl⟩) ?_ ?_
       rotate_left
       ·simp only [Act.put, List.setIfInBounds_toArray, List.set_cons_zero, List.set_cons_succ, i64_w, i32_w]
        rfl
       refine pure_ (i := 36) (N := some 60) (v := undef) (a' := ?_) #[T6_,T6_,T6_,T6_,T6_,T6_,T6_,T6_,T6_,T6_,T6_,T6_,T6_,T6_,T6_,T6_,T6_,T6_,T6_,T6_,T6_,T6_,T6_,T6_,T6_,T6_,T6_,T6_,T6_,T6_,T6_,T6_,T6_,T6_,T6_,T6_,T6_,F6_,F6_,F6_,F6_,F6_,F6_,F6_,F6_] rfl rfl (any_of HT_.out (by kernel_rfl)) (fun _ _ _ h => h) (Or.inr ⟨by rfl, rfl⟩) ?_ ?_
       rotate_left
       ·simp only [Act.put, List.setIfInBounds_toArray, List.set_cons_zero, List.set_cons_succ, i64_w, i32_w]
        rfl
       refine pure_ (i := 37) (N := some 61) (v := undef) (a' := ?_) #[T6_,T6_,T6_,T6_,T6_,T6_,T6_,T6_,T6_,T6_,T6_,T6_,T6_,T6_,T6_,T6_,T6_,T6_,T6_,T6_,T6_,T6_,T6_,T6_,T6_,T6_,T6_,T6_,T6_,T6_,T6_,T6_,T6_,T6_,T6_,T6_,T6_,T6_,F6_,F6_,F6_,F6_,F6_,F6_,F6_] rfl rfl (any_of HT_.out (by kernel_rfl)) (fun _ _ _ h => h) (Or.inr ⟨by rfl, rfl⟩) ?_ ?_
       rotate_left
       ·simp only [Act.put, List.setIfInBounds_toArray, List.set_cons_zero, List.set_cons_succ, i64_w, i32_w]
        rfl
       refine pure_ (i := 38) (N := some 62) (v := undef) (a' := ?_) #[T6_,T6_,T6_,T6_,T6_,T6_,T6_,T6_,T6_,T6_,T6_,T6_,T6_,T6_,T6_,T6_,T6_,T6_,T6_,T6_,T6_,T6_,T6_,T6_,T6_,T6_,T6_,T6_,T6_,T6_,T6_,T6_,T6_,T6_,T6_,T6_,T6_,T6_,T6_,F6_,F6_,F6_,F6_,F6_,F6_] rfl rfl (any_of HT_.out (by kernel_rfl)) (fun _ _ _ h => h) (Or.inr ⟨by rfl, rfl⟩) ?_ ?_
       rotate_left
       ·simp only [Act.put, List.setIfInBounds_toArray, List.set_cons_zero, List.set_cons_succ, i64_w, i32_w]
        rfl
       refine pure_ (i := 39) (N := some 63) (v := undef) (a' := ?_) #[T6_,T6_,T6_,T6_,T6_,T6_,T6_,T6_,T6_,T6_,T6_,T6_,T6_,T6_,T6_,T6_,T6_,T6_,T6_,T6_,T6_,T6_,T6_,T6_,T6_,T6_,T6_,T6_,T6_,T6_,T6_,T6_,T6_,T6_,T6_,T6_,T6_,T6_,T6_,T6_,F6_,F6_,F6_,F6_,F6_] rfl rfl (any_of HT_.out (by kernel_rfl)) (fun _ _ _ h => h) (Or.inr ⟨by rfl, rfl⟩) ?_ ?_
       rotate_left
       ·simp only [Act.put, List.setIfInBounds_toArray, List.set_cons_zero, List.set_cons_succ, i64_w, i32_w]
        rfl
       refine pure_ (i := 40) (N := some 64) (v := undef) (a' := ?_) #[T6_,T6_,T6_,T6_,T6_,T6_,T6_,T6_,T6_,T6_,T6_,T6_,T6_,T6_,T6_,T6_,T6_,T6_,T6_,T6_,T6_,T6_,T6_,T6_,T6_,T6_,T6_,T6_,T6_,T6_,T6_,T6_,T6_,T6_,T6_,T6_,T6_,T6_,T6_,T6_,T6_,F6_,F6_,F6_,F6_] rfl rfl (any_of HT_.out (by kernel_rfl)) (fun _ _ _ h => h) (Or.inr ⟨by rfl, rfl⟩) ?_ ?_
       rotate_left
       ·simp only [Act.put, List.setIfInBounds_toArray, List.set_cons_zero, List.set_cons_succ, i64_w, i32_w]
        rfl
       refine pure_ (i := 41) (N := some 65) (v := undef) (a' := ?_) #[T6_,T6_,T6_,T6_,T6_,T6_,T6_,T6_,T6_,T6_,T6_,T6_,T6_,T6_,T6_,T6_,T6_,T6_,T6_,T6_,T6_,T6_,T6_,T6_,T6_,T6_,T6_,T6_,T6_,T6_,T6_,T6_,T6_,T6_,T6_,T6_,T6_,T6_,T6_,T6_,T6_,T6_,F6_,F6_,F6_] rfl rfl (any_of HT_.out (by kernel_rfl)) (fun _ _ _ h => h) (Or.inr ⟨by rfl, rfl⟩) ?_ ?_
       rotate_left
       ·simp only [Act.put, List.setIfInBounds_toArray, List.set_cons_zero, List.set_cons_succ, i64_w, i32_w]
        rfl
       refine pure_ (i := 42) (N := some 66) (v := undef) (a' := ?_) #[T6_,T6_,T6_,T6_,T6_,T6_,T6_,T6_,T6_,T6_,T6_,T6_,T6_,T6_,T6_,T6_,T6_,T6_,T6_,T6_,T6_,T6_,T6_,T6_,T6_,T6_,T6_,T6_,T6_,T6_,T6_,T6_,T6_,T6_,T6_,T6_,T6_,T6_,T6_,T6_,T6_,T6_,T6_,F6_,F6_] rfl rfl (any_of HT_.out (by kernel_rfl)) (fun _ _ _ h => h) (Or.inr ⟨by rfl, rfl⟩) ?_ ?_
       rotate_left
       ·simp only [Act.put, List.setIfInBounds_toArray, List.set_cons_zero, List.set_cons_succ, i64_w, i32_w]
        rfl
       refine pure_ (i := 43) (N := some 67) (v := undef) (a' := ?_) #[T6_,T6_,T6_,T6_,T6_,T6_,T6_,T6_,T6_,T6_,T6_,T6_,T6_,T6_,T6_,T6_,T6_,T6_,T6_,T6_,T6_,T6_,T6_,T6_,T6_,T6_,T6_,T6_,T6_,T6_,T6_,T6_,T6_,T6_,T6_,T6_,T6_,T6_,T6_,T6_,T6_,T6_,T6_,T6_,F6_] rfl rfl (any_of HT_.out (by kernel_rfl)) (fun _ _ _ h => h) (Or.inr ⟨by rfl, rfl⟩) ?_ ?_
       rotate_left
       ·simp only [Act.put, List.setIfInBounds_toArray, List.set_cons_zero, List.set_cons_succ, i64_w, i32_w]
        rfl
       refine pure_ (i := 44) (N := some 68) (v := ?_) (a' := ?_) #[T6_,T6_,T6_,T6_,T6_,T6_,T6_,T6_,T6_,T6_,T6_,T6_,T6_,T6_,T6_,T6_,T6_,T6_,T6_,T6_,T6_,T6_,T6_,T6_,T6_,T6_,T6_,T6_,T6_,T6_,T6_,T6_,T6_,T6_,T6_,T6_,T6_,T6_,T6_,T6_,T6_,T6_,T6_,T6_,T6_] rfl rfl (any_of HT_.out (by kernel_rfl)) (fun _ _ _ h => h) (Or.inl ⟨by rfl, ?_⟩) ?_ ?_
       rotate_left
       ·intro w'
        go_simp
        with_reducible rfl
       rotate_left
       ·simp only [Act.put, List.setIfInBounds_toArray, List.set_cons_zero, List.set_cons_succ, i64_w, i32_w]
        rfl
       refine done_ (done_of HT_.out (by kernel_rfl)) ?_
       try go_wp2
       go_meet
       case rel => exact ⟨_, (true), (by first | rfl | (simp; done) | (simp [*]; done)), H', ⟨by first | omega | exact Nat.le_refl _⟩, ⟨HBu HB.out⟩⟩
      ·rw [if_neg c14] at H
       have c14b0 : decide (4096 < a3) = false := decide_eq_false c14
       clear c14
       obtain ⟨ji16, hji16⟩ : ∃ j_ : Int, (wrap64 ((l0.length : Int) - 1)) = j_ := ⟨_, rfl⟩
       replace H : (if 0 ≤ (ji16) then (if (ji16) < (l0.length : Int) then (if (rd l0 (ji16)) > a3 then (impl_foldPairs.j0 k l0 a1 a2 a3 ji16 true) else (if 0 ≤ a1 then (if a1 < (l0.length : Int) then (if a2 = 0 then (none) else (impl_foldPairs.j0 k l0 a1 a2 a3 ji16 ((rd l0 a1) != (wrap64 ((wrap64 (Int.tdiv (wrap64 (a3 - (rd l0 (ji16)))) a2)) + 1))))) else (none)) else (none))) else (none)) else (none)) = some (r1, r2, r3) := by first | (rw [hji16] at H; exact H) | (simp only [hji16] at H ⊢; exact H)
       (try rw [hji16] at c8b0)
       (try rw [hji16] at c8b1)
       (try rw [hji16] at A6)
       have hji16w : (IntKind.i64.wrap ((l0.length : Int) - 1)) = ji16 := (i64_w _).trans hji16
       by_cases c17 : 0 ≤ (ji16)
       ·rw [if_pos c17] at H
        have c17b0 : decide (0 ≤ (ji16)) = true := decide_eq_true c17
        clear c17
        by_cases c18 : (ji16) < (l0.length : Int)
        ·rw [if_pos c18] at H
         have c18b0 : decide ((ji16) < (l0.length : Int)) = true := decide_eq_true c18
         clear c18
         by_cases c19 : (rd l0 (ji16)) > a3
         ·rw [if_pos c19] at H
          have c19b0 : decide (a3 < (rd l0 (ji16))) = true := decide_eq_true c19
          clear c19
          have H' := Aside0.mk H
          clear H
          try go_wp2
          replace HB := Aside0.mk (below_drew1 HB.out)
          have p226 : 0 ≤ ((ji16) : Int) := of_decide_eq_true (by first | (with_reducible assumption) | assumption)
          have q226 : (ji16) < (l0.length : Int) := of_decide_eq_true (by first | (with_reducible assumption) | assumption)
          obtain ⟨ad226, e226, hx226_0⟩ := Kd.at_int HR0.out (ji16) p226 q226
          have hw226_0 := hx226_0
          cases e226
          replace hx226_0 := (HB.out.cell (World.block_lt_of_cell? w _ hx226_0)).trans hx226_0
          replace p226 := eq_true p226
          replace q226 := eq_true q226
          refine start_ (n := 45) (S := fun w' => w'.cell? (ad226.add ((ji16)).toNat) = some (.int .i64 (rd l0 (ji16)))) (ds := []) #[F6_,F6_,F6_,F6_,F6_,F6_,F6_,F6_,F6_,F6_,F6_,F6_,F6_,F6_,F6_,F6_,F6_,F6_,F6_,F6_,F6_,F6_,F6_,F6_,F6_,F6_,F6_,F6_,F6_,F6_,F6_,F6_,F6_,F6_,F6_,F6_,F6_,F6_,F6_,F6_,F6_,F6_,F6_,F6_,F6_] (by kernel_rfl) rfl rfl (((HB.out.cell (World.block_lt_of_cell? w _ hw226_0)).trans hw226_0)) (fun hHeld => ?_); refine with_tabW impl_foldPairs.tab2 impl_foldPairs.bits2 (fun HT_ HW_ => ?_)
          generalize w.drew = w20 at HB hx226_0 hHeld ⊢
          refine pure_ (i := 0) (N := some 24) (v := ?_) (a' := ?_) #[T6_,F6_,F6_,F6_,F6_,F6_,F6_,F6_,F6_,F6_,F6_,F6_,F6_,F6_,F6_,F6_,F6_,F6_,F6_,F6_,F6_,F6_,F6_,F6_,F6_,F6_,F6_,F6_,F6_,F6_,F6_,F6_,F6_,F6_,F6_,F6_,F6_,F6_,F6_,F6_,F6_,F6_,F6_,F6_,F6_] rfl rfl (any_of HT_.out (by kernel_rfl)) (fun _ _ _ h => h) (Or.inl ⟨by rfl, ?_⟩) ?_ ?_
          rotate_left
          ·intro w'
           go_simp
           with_reducible rfl
          rotate_left
          ·simp only [Act.put, List.setIfInBounds_toArray, List.set_cons_zero, List.set_cons_succ, i64_w, i32_w]
           rfl
          refine pure_ (i := 1) (N := some 25) (v := ?_) (a' := ?_) #[T6_,T6_,F6_,F6_,F6_,F6_,F6_,F6_,F6_,F6_,F6_,F6_,F6_,F6_,F6_,F6_,F6_,F6_,F6_,F6_,F6_,F6_,F6_,F6_,F6_,F6_,F6_,F6_,F6_,F6_,F6_,F6_,F6_,F6_,F6_,F6_,F6_,F6_,F6_,F6_,F6_,F6_,F6_,F6_,F6_] rfl rfl (any_of HT_.out (by kernel_rfl)) (fun _ _ _ h => h) (Or.inl ⟨by rfl, ?_⟩) ?_ ?_
          rotate_left
          ·intro w'
           go_simp
           with_reducible rfl
          rotate_left
          ·simp only [Act.put, List.setIfInBounds_toArray, List.set_cons_zero, List.set_cons_succ, i64_w, i32_w]
           rfl
          refine one_ (i := 2) (N := some 26) #[T6_,T6_,T6_,F6_,F6_,F6_,F6_,F6_,F6_,F6_,F6_,F6_,F6_,F6_,F6_,F6_,F6_,F6_,F6_,F6_,F6_,F6_,F6_,F6_,F6_,F6_,F6_,F6_,F6_,F6_,F6_,F6_,F6_,F6_,F6_,F6_,F6_,F6_,F6_,F6_,F6_,F6_,F6_,F6_,F6_] rfl rfl (one_of HT_.out (by kernel_rfl)) (by decide) (fun K hK => ?_)
          refine goes_ Try.func78 (by kernel_rfl) rfl #[.slice _ l0.length c0, .int .i64 a1] (by rfl) rfl rfl (by (try simp only [List.map_toArray, List.map_cons, List.map_nil]); first | done | rfl | (simp only [List.length_drop, List.length_take]; rfl)) ?_
          with_reducible refine (impl_isAxis.calls _ _ l0 a1 true _ ?side1 ?side2 A6.out).mono ?_
          (case side1 => exact (Cu ((Kd.C_below HR0.out HB.out))))
          (case side2 => exact HC0.out)
          rintro e w' ⟨rfl, ⟨nd, rfl⟩⟩
          refine ⟨_, rfl, ?_⟩
          refine hK.out _ _ (((HB.out.cell (World.block_lt_of_cell? w _ hw226_0)).trans hw226_0)) (fun hHeld => ?_)
          clear hK K
          refine norm_ (a' := ?_) ?_ ?_
          rotate_left
          ·show Act.put _ (some 26) _ = _
           simp only [Act.put, List.setIfInBounds_toArray, List.set_cons_zero, List.set_cons_succ, i64_w, i32_w]
           rfl
          refine pure_ (i := 3) (N := some 27) (v := ?_) (a' := ?_) #[T6_,T6_,T6_,T6_,F6_,F6_,F6_,F6_,F6_,F6_,F6_,F6_,F6_,F6_,F6_,F6_,F6_,F6_,F6_,F6_,F6_,F6_,F6_,F6_,F6_,F6_,F6_,F6_,F6_,F6_,F6_,F6_,F6_,F6_,F6_,F6_,F6_,F6_,F6_,F6_,F6_,F6_,F6_,F6_,F6_] rfl rfl (any_of HT_.out (by kernel_rfl)) (fun _ _ _ h => h) (Or.inl ⟨by rfl, ?_⟩) ?_ ?_
          rotate_left
          ·intro w'
           go_simp
           with_reducible rfl
          rotate_left
          ·simp only [Act.put, List.setIfInBounds_toArray, List.set_cons_zero, List.set_cons_succ, i64_w, i32_w]
           rfl
          refine pure_ (i := 4) (N := some 28) (v := ?_) (a' := ?_) #[T6_,T6_,T6_,T6_,T6_,F6_,F6_,F6_,F6_,F6_,F6_,F6_,F6_,F6_,F6_,F6_,F6_,F6_,F6_,F6_,F6_,F6_,F6_,F6_,F6_,F6_,F6_,F6_,F6_,F6_,F6_,F6_,F6_,F6_,F6_,F6_,F6_,F6_,F6_,F6_,F6_,F6_,F6_,F6_,F6_] rfl rfl (any_of HT_.out (by kernel_rfl)) (fun _ _ _ h => h) (Or.inl ⟨by rfl, ?_⟩) ?_ ?_
          rotate_left
          ·intro w'
           go_simp
           with_reducible rfl
          rotate_left
          ·simp only [Act.put, List.setIfInBounds_toArray, List.set_cons_zero, List.set_cons_succ, i64_w, i32_w]
           rfl
          refine pure_ (i := 5) (N := some 29) (v := ?_) (a' := ?_) #[T6_,T6_,T6_,T6_,T6_,T6_,F6_,F6_,F6_,F6_,F6_,F6_,F6_,F6_,F6_,F6_,F6_,F6_,F6_,F6_,F6_,F6_,F6_,F6_,F6_,F6_,F6_,F6_,F6_,F6_,F6_,F6_,F6_,F6_,F6_,F6_,F6_,F6_,F6_,F6_,F6_,F6_,F6_,F6_,F6_] rfl rfl (any_of HT_.out (by kernel_rfl)) (fun _ _ _ h => h) (Or.inl ⟨by rfl, ?_⟩) ?_ ?_
          rotate_left
          ·intro w'
           go_simp
           with_reducible rfl
          rotate_left
          ·simp only [Act.put, List.setIfInBounds_toArray, List.set_cons_zero, List.set_cons_succ, i64_w, i32_w]
           rfl
          refine pure_ (i := 6) (N := some 30) (v := ?_) (a' := ?_) #[T6_,T6_,T6_,T6_,T6_,T6_,T6_,F6_,F6_,F6_,F6_,F6_,F6_,F6_,F6_,F6_,F6_,F6_,F6_,F6_,F6_,F6_,F6_,F6_,F6_,F6_,F6_,F6_,F6_,F6_,F6_,F6_,F6_,F6_,F6_,F6_,F6_,F6_,F6_,F6_,F6_,F6_,F6_,F6_,F6_] rfl rfl (any_of HT_.out (by kernel_rfl)) (fun _ _ _ h => h) (Or.inl ⟨by rfl, ?_⟩) ?_ ?_
          rotate_left
          ·intro w'
           go_simp
           with_reducible rfl
          rotate_left
          ·simp only [Act.put, List.setIfInBounds_toArray, List.set_cons_zero, List.set_cons_succ, i64_w, i32_w]
           rfl
          refine pure_ (i := 7) (N := some 31) (v := ?_) (a' := ?_) #[T6_,T6_,T6_,T6_,T6_,T6_,T6_,T6_,F6_,F6_,F6_,F6_,F6_,F6_,F6_,F6_,F6_,F6_,F6_,F6_,F6_,F6_,F6_,F6_,F6_,F6_,F6_,F6_,F6_,F6_,F6_,F6_,F6_,F6_,F6_,F6_,F6_,F6_,F6_,F6_,F6_,F6_,F6_,F6_,F6_] rfl rfl (any_of HT_.out (by kernel_rfl)) (fun _ _ _ h => h) (Or.inl ⟨by rfl, ?_⟩) ?_ ?_
          rotate_left
          ·intro w'
           go_simp
           with_reducible rfl
          rotate_left
          ·simp only [Act.put, List.setIfInBounds_toArray, List.set_cons_zero, List.set_cons_succ, i64_w, i32_w]
           rfl
          refine pure_ (i := 8) (N := some 32) (v := ?_) (a' := ?_) #[T6_,T6_,T6_,T6_,T6_,T6_,T6_,T6_,T6_,F6_,F6_,F6_,F6_,F6_,F6_,F6_,F6_,F6_,F6_,F6_,F6_,F6_,F6_,F6_,F6_,F6_,F6_,F6_,F6_,F6_,F6_,F6_,F6_,F6_,F6_,F6_,F6_,F6_,F6_,F6_,F6_,F6_,F6_,F6_,F6_] rfl rfl (any_of HT_.out (by kernel_rfl)) (fun _ _ _ h => h) (Or.inl ⟨by rfl, ?_⟩) ?_ ?_
          rotate_left
          ·intro w'
           go_simp
           with_reducible rfl
          rotate_left
          ·simp only [Act.put, List.setIfInBounds_toArray, List.set_cons_zero, List.set_cons_succ, i64_w, i32_w]
           rfl
          refine pure_ (i := 9) (N := some 33) (v := ?_) (a' := ?_) #[T6_,T6_,T6_,T6_,T6_,T6_,T6_,T6_,T6_,T6_,F6_,F6_,F6_,F6_,F6_,F6_,F6_,F6_,F6_,F6_,F6_,F6_,F6_,F6_,F6_,F6_,F6_,F6_,F6_,F6_,F6_,F6_,F6_,F6_,F6_,F6_,F6_,F6_,F6_,F6_,F6_,F6_,F6_,F6_,F6_] rfl rfl (any_of HT_.out (by kernel_rfl)) (fun _ _ _ h => h) (Or.inl ⟨by rfl, ?_⟩) ?_ ?_
          rotate_left
          ·intro w'
           go_simp
           with_reducible rfl
          rotate_left
          ·simp only [Act.put, List.setIfInBounds_toArray, List.set_cons_zero, List.set_cons_succ, i64_w, i32_w]
           rfl
          refine pure_ (i := 10) (N := some 34) (v := ?_) (a' := ?_) #[T6_,T6_,T6_,T6_,T6_,T6_,T6_,T6_,T6_,T6_,T6_,F6_,F6_,F6_,F6_,F6_,F6_,F6_,F6_,F6_,F6_,F6_,F6_,F6_,F6_,F6_,F6_,F6_,F6_,F6_,F6_,F6_,F6_,F6_,F6_,F6_,F6_,F6_,F6_,F6_,F6_,F6_,F6_,F6_,F6_] rfl rfl (any_of HT_.out (by kernel_rfl)) (fun _ _ _ h => h) (Or.inl ⟨by rfl, ?_⟩) ?_ ?_
          rotate_left
          ·intro w'
           go_simp
           with_reducible rfl
          rotate_left
          ·simp only [Act.put, List.setIfInBounds_toArray, List.set_cons_zero, List.set_cons_succ, i64_w, i32_w]
           rfl
          refine pure_ (i := 11) (N := some 35) (v := ?_) (a' := ?_) #[T6_,T6_,T6_,T6_,T6_,T6_,T6_,T6_,T6_,T6_,T6_,T6_,F6_,F6_,F6_,F6_,F6_,F6_,F6_,F6_,F6_,F6_,F6_,F6_,F6_,F6_,F6_,F6_,F6_,F6_,F6_,F6_,F6_,F6_,F6_,F6_,F6_,F6_,F6_,F6_,F6_,F6_,F6_,F6_,F6_] rfl rfl (any_of HT_.out (by kernel_rfl)) (fun _ _ _ h => h) (Or.inl ⟨by rfl, ?_⟩) ?_ ?_
          rotate_left
          ·intro w'
           go_simp
           with_reducible rfl
          rotate_left
          ·simp only [Act.put, List.setIfInBounds_toArray, List.set_cons_zero, List.set_cons_succ, i64_w, i32_w]
           rfl
          refine pure_ (i := 12) (N := some 36) (v := ?_) (a' := ?_) #[T6_,T6_,T6_,T6_,T6_,T6_,T6_,T6_,T6_,T6_,T6_,T6_,T6_,F6_,F6_,F6_,F6_,F6_,F6_,F6_,F6_,F6_,F6_,F6_,F6_,F6_,F6_,F6_,F6_,F6_,F6_,F6_,F6_,F6_,F6_,F6_,F6_,F6_,F6_,F6_,F6_,F6_,F6_,F6_,F6_] rfl rfl (any_of HT_.out (by kernel_rfl)) (fun _ _ _ h => h) (Or.inl ⟨by rfl, ?_⟩) ?_ ?_
          rotate_left
          ·intro w'
           go_simp
           with_reducible rfl
          rotate_left
          ·simp only [Act.put, List.setIfInBounds_toArray, List.set_cons_zero, List.set_cons_succ, i64_w, i32_w]
           rfl
          refine pure_ (i := 13) (N := some 37) (v := ?_) (a' := ?_) #[T6_,T6_,T6_,T6_,T6_,T6_,T6_,T6_,T6_,T6_,T6_,T6_,T6_,T6_,F6_,F6_,F6_,F6_,F6_,F6_,F6_,F6_,F6_,F6_,F6_,F6_,F6_,F6_,F6_,F6_,F6_,F6_,F6_,F6_,F6_,F6_,F6_,F6_,F6_,F6_,F6_,F6_,F6_,F6_,F6_] rfl rfl (any_of HT_.out (by kernel_rfl)) (fun _ _ _ h => h) (Or.inl ⟨by rfl, ?_⟩) ?_ ?_
          rotate_left
          ·intro w'
           go_simp
           with_reducible rfl
          rotate_left
          ·simp only [Act.put, List.setIfInBounds_toArray, List.set_cons_zero, List.set_cons_succ, i64_w, i32_w]
           rfl
          refine pure_ (i := 14) (N := some 38) (v := ?_) (a' := ?_) #[T6_,T6_,T6_,T6_,T6_,T6_,T6_,T6_,T6_,T6_,T6_,T6_,T6_,T6_,T6_,F6_,F6_,F6_,F6_,F6_,F6_,F6_,F6_,F6_,F6_,F6_,F6_,F6_,F6_,F6_,F6_,F6_,F6_,F6_,F6_,F6_,F6_,F6_,F6_,F6_,F6_,F6_,F6_,F6_,F6_] rfl rfl (any_of HT_.out (by kernel_rfl)) (fun _ _ _ h => h) (Or.inl ⟨by rfl, ?_⟩) ?_ ?_
          rotate_left
          ·intro w'
           go_simp
           with_reducible rfl
          rotate_left
          ·simp only [Act.put, List.setIfInBounds_toArray, List.set_cons_zero, List.set_cons_succ, i64_w, i32_w]
           rfl
          refine pure_ (i := 15) (N := some 39) (v := ?_) (a' := ?_) #[T6_,T6_,T6_,T6_,T6_,T6_,T6_,T6_,T6_,T6_,T6_,T6_,T6_,T6_,T6_,T6_,F6_,F6_,F6_,F6_,F6_,F6_,F6_,F6_,F6_,F6_,F6_,F6_,F6_,F6_,F6_,F6_,F6_,F6_,F6_,F6_,F6_,F6_,F6_,F6_,F6_,F6_,F6_,F6_,F6_] rfl rfl (any_of HT_.out (by kernel_rfl)) (fun _ _ _ h => h) (Or.inl ⟨by rfl, ?_⟩) ?_ ?_
          rotate_left
          ·intro w'
           go_simp
           with_reducible rfl
          rotate_left
          ·simp only [Act.put, List.setIfInBounds_toArray, List.set_cons_zero, List.set_cons_succ, i64_w, i32_w]
           rfl
          refine pure_ (i := 16) (N := some 40) (v := ?_) (a' := ?_) #[T6_,T6_,T6_,T6_,T6_,T6_,T6_,T6_,T6_,T6_,T6_,T6_,T6_,T6_,T6_,T6_,T6_,F6_,F6_,F6_,F6_,F6_,F6_,F6_,F6_,F6_,F6_,F6_,F6_,F6_,F6_,F6_,F6_,F6_,F6_,F6_,F6_,F6_,F6_,F6_,F6_,F6_,F6_,F6_,F6_] rfl rfl (any_of HT_.out (by kernel_rfl)) (fun _ _ _ h => h) (Or.inl ⟨by rfl, ?_⟩) ?_ ?_
          rotate_left
          ·intro w'
           go_simp
           with_reducible rfl
          rotate_left
          ·simp only [Act.put, List.setIfInBounds_toArray, List.set_cons_zero, List.set_cons_succ, i64_w, i32_w]
           rfl
          refine pure_ (i := 17) (N := some 41) (v := ?_) (a' := ?_) #[T6_,T6_,T6_,T6_,T6_,T6_,T6_,T6_,T6_,T6_,T6_,T6_,T6_,T6_,T6_,T6_,T6_,T6_,F6_,F6_,F6_,F6_,F6_,F6_,F6_,F6_,F6_,F6_,F6_,F6_,F6_,F6_,F6_,F6_,F6_,F6_,F6_,F6_,F6_,F6_,F6_,F6_,F6_,F6_,F6_] rfl rfl (any_of HT_.out (by kernel_rfl)) (fun _ _ _ h => h) (Or.inl ⟨by rfl, ?_⟩) ?_ ?_
          rotate_left
          ·intro w'
           go_simp
           with_reducible rfl
          rotate_left
          ·simp only [Act.put, List.setIfInBounds_toArray, List.set_cons_zero, List.set_cons_succ, i64_w, i32_w]
           rfl
          refine pure_ (i := 18) (N := some 42) (v := ?_) (a' := ?_) #[T6_,T6_,T6_,T6_,T6_,T6_,T6_,T6_,T6_,T6_,T6_,T6_,T6_,T6_,T6_,T6_,T6_,T6_,T6_,F6_,F6_,F6_,F6_,F6_,F6_,F6_,F6_,F6_,F6_,F6_,F6_,F6_,F6_,F6_,F6_,F6_,F6_,F6_,F6_,F6_,F6_,F6_,F6_,F6_,F6_] rfl rfl (any_of HT_.out (by kernel_rfl)) (fun _ _ _ h => h) (Or.inl ⟨by rfl, ?_⟩) ?_ ?_
          rotate_left
          ·intro w'
           go_simp
           with_reducible rfl
          rotate_left
          ·simp only [Act.put, List.setIfInBounds_toArray, List.set_cons_zero, List.set_cons_succ, i64_w, i32_w]
           rfl
          refine pure_ (i := 19) (N := some 43) (v := ?_) (a' := ?_) #[T6_,T6_,T6_,T6_,T6_,T6_,T6_,T6_,T6_,T6_,T6_,T6_,T6_,T6_,T6_,T6_,T6_,T6_,T6_,T6_,F6_,F6_,F6_,F6_,F6_,F6_,F6_,F6_,F6_,F6_,F6_,F6_,F6_,F6_,F6_,F6_,F6_,F6_,F6_,F6_,F6_,F6_,F6_,F6_,F6_] rfl rfl (any_of HT_.out (by kernel_rfl)) (fun _ _ _ h => h) (Or.inl ⟨by rfl, ?_⟩) ?_ ?_
          rotate_left
          ·intro w'
           go_simp
           with_reducible rfl
          rotate_left
          ·simp only [Act.put, List.setIfInBounds_toArray, List.set_cons_zero, List.set_cons_succ, i64_w, i32_w]
           rfl
          refine pure_ (i := 20) (N := some 44) (v := ?_) (a' := ?_) #[T6_,T6_,T6_,T6_,T6_,T6_,T6_,T6_,T6_,T6_,T6_,T6_,T6_,T6_,T6_,T6_,T6_,T6_,T6_,T6_,T6_,F6_,F6_,F6_,F6_,F6_,F6_,F6_,F6_,F6_,F6_,F6_,F6_,F6_,F6_,F6_,F6_,F6_,F6_,F6_,F6_,F6_,F6_,F6_,F6_] rfl rfl (any_of HT_.out (by kernel_rfl)) (fun _ _ _ h => h) (Or.inl ⟨by rfl, ?_⟩) ?_ ?_
          rotate_left
          ·intro w'
           go_simp
           with_reducible rfl
          rotate_left
          ·simp only [Act.put, List.setIfInBounds_toArray, List.set_cons_zero, List.set_cons_succ, i64_w, i32_w]
           rfl
          refine pure_ (i := 21) (N := some 45) (v := ?_) (a' := ?_) #[T6_,T6_,T6_,T6_,T6_,T6_,T6_,T6_,T6_,T6_,T6_,T6_,T6_,T6_,T6_,T6_,T6_,T6_,T6_,T6_,T6_,T6_,F6_,F6_,F6_,F6_,F6_,F6_,F6_,F6_,F6_,F6_,F6_,F6_,F6_,F6_,F6_,F6_,F6_,F6_,F6_,F6_,F6_,F6_,F6_] rfl rfl (any_of HT_.out (by kernel_rfl)) (fun _ _ _ h => h) (Or.inl ⟨by rfl, ?_⟩) ?_ ?_
          rotate_left
          ·intro w'
           go_simp
           with_reducible rfl
          rotate_left
          ·simp only [Act.put, List.setIfInBounds_toArray, List.set_cons_zero, List.set_cons_succ, i64_w, i32_w]
           rfl
          refine pure_ (i := 22) (N := some 46) (v := ?_) (a' := ?_) #[T6_,T6_,T6_,T6_,T6_,T6_,T6_,T6_,T6_,T6_,T6_,T6_,T6_,T6_,T6_,T6_,T6_,T6_,T6_,T6_,T6_,T6_,T6_,F6_,F6_,F6_,F6_,F6_,F6_,F6_,F6_,F6_,F6_,F6_,F6_,F6_,F6_,F6_,F6_,F6_,F6_,F6_,F6_,F6_,F6_] rfl rfl (any_of HT_.out (by kernel_rfl)) (fun _ _ _ h => h) (Or.inl ⟨by rfl, ?_⟩) ?_ ?_
          rotate_left
          ·intro w'
           go_simp
           with_reducible rfl
          rotate_left
          ·simp only [Act.put, List.setIfInBounds_toArray, List.set_cons_zero, List.set_cons_succ, i64_w, i32_w]
           rfl
          refine pure_ (i := 23) (N := some 47) (v := ?_) (a' := ?_) #[T6_,T6_,T6_,T6_,T6_,T6_,T6_,T6_,T6_,T6_,T6_,T6_,T6_,T6_,T6_,T6_,T6_,T6_,T6_,T6_,T6_,T6_,T6_,T6_,F6_,F6_,F6_,F6_,F6_,F6_,F6_,F6_,F6_,F6_,F6_,F6_,F6_,F6_,F6_,F6_,F6_,F6_,F6_,F6_,F6_] rfl rfl (any_of HT_.out (by kernel_rfl)) (fun _ _ _ h => h) (Or.inl ⟨by rfl, ?_⟩) ?_ ?_
          rotate_left
          ·intro w'
           go_simp
           with_reducible rfl
          rotate_left
          ·simp only [Act.put, List.setIfInBounds_toArray, List.set_cons_zero, List.set_cons_succ, i64_w, i32_w]
           rfl
          refine pure_ (i := 24) (N := some 48) (v := ?_) (a' := ?_) #[T6_,T6_,T6_,T6_,T6_,T6_,T6_,T6_,T6_,T6_,T6_,T6_,T6_,T6_,T6_,T6_,T6_,T6_,T6_,T6_,T6_,T6_,T6_,T6_,T6_,F6_,F6_,F6_,F6_,F6_,F6_,F6_,F6_,F6_,F6_,F6_,F6_,F6_,F6_,F6_,F6_,F6_,F6_,F6_,F6_] rfl rfl (any_of HT_.out (by kernel_rfl)) (fun _ _ _ h => h) (Or.inl ⟨by rfl, ?_⟩) ?_ ?_
          rotate_left
          ·intro w'
           go_simp
           with_reducible rfl
          rotate_left
          ·simp only [Act.put, List.setIfInBounds_toArray, List.set_cons_zero, List.set_cons_succ, i64_w, i32_w]
           rfl
          refine pure_ (i := 26) (N := some 50) (v := ?_) (a' := ?_) #[T6_,T6_,T6_,T6_,T6_,T6_,T6_,T6_,T6_,T6_,T6_,T6_,T6_,T6_,T6_,T6_,T6_,T6_,T6_,T6_,T6_,T6_,T6_,T6_,T6_,F6_,T6_,F6_,F6_,F6_,F6_,F6_,F6_,F6_,F6_,F6_,F6_,F6_,F6_,F6_,F6_,F6_,F6_,F6_,F6_] rfl rfl (any_of HT_.out (by kernel_rfl)) (fun _ _ _ h => h) (Or.inl ⟨by rfl, ?_⟩) ?_ ?_
          rotate_left
          ·intro w'
           go_simp
           with_reducible rfl
          rotate_left
          ·simp only [Act.put, List.setIfInBounds_toArray, List.set_cons_zero, List.set_cons_succ, i64_w, i32_w]
           rfl
          refine take_ (i := 25) (N := some 49) (v := ?_) (a' := ?_) #[T6_,T6_,T6_,T6_,T6_,T6_,T6_,T6_,T6_,T6_,T6_,T6_,T6_,T6_,T6_,T6_,T6_,T6_,T6_,T6_,T6_,T6_,T6_,T6_,T6_,T6_,T6_,F6_,F6_,F6_,F6_,F6_,F6_,F6_,F6_,F6_,F6_,F6_,F6_,F6_,F6_,F6_,F6_,F6_,F6_] rfl rfl (take_ofW HT_.out HW_.out (by kernel_rfl)) (fun _ _ _ h => h) (Or.inl ⟨by rfl, ?_⟩) hHeld ?_ ?_
          rotate_left
          ·intro w' s0
           go_simp
           with_reducible rfl
          rotate_left
          ·simp only [Act.put, List.setIfInBounds_toArray, List.set_cons_zero, List.set_cons_succ, i64_w, i32_w]
           rfl
          refine pure_ (i := 27) (N := some 51) (v := ?_) (a' := ?_) #[T6_,T6_,T6_,T6_,T6_,T6_,T6_,T6_,T6_,T6_,T6_,T6_,T6_,T6_,T6_,T6_,T6_,T6_,T6_,T6_,T6_,T6_,T6_,T6_,T6_,T6_,T6_,T6_,F6_,F6_,F6_,F6_,F6_,F6_,F6_,F6_,F6_,F6_,F6_,F6_,F6_,F6_,F6_,F6_,F6_] rfl rfl (any_of HT_.out (by kernel_rfl)) (fun _ _ _ h => h) (Or.inl ⟨by rfl, ?_⟩) ?_ ?_
          rotate_left
          ·intro w'
           go_simp
           with_reducible rfl
          rotate_left
          ·simp only [Act.put, List.setIfInBounds_toArray, List.set_cons_zero, List.set_cons_succ, i64_w, i32_w]
           rfl
          refine pure_ (i := 28) (N := some 52) (v := ?_) (a' := ?_) #[T6_,T6_,T6_,T6_,T6_,T6_,T6_,T6_,T6_,T6_,T6_,T6_,T6_,T6_,T6_,T6_,T6_,T6_,T6_,T6_,T6_,T6_,T6_,T6_,T6_,T6_,T6_,T6_,T6_,F6_,F6_,F6_,F6_,F6_,F6_,F6_,F6_,F6_,F6_,F6_,F6_,F6_,F6_,F6_,F6_] rfl rfl (any_of HT_.out (by kernel_rfl)) (fun _ _ _ h => h) (Or.inl ⟨by rfl, ?_⟩) ?_ ?_
          rotate_left
          ·intro w'
           go_simp
           with_reducible rfl
          rotate_left
          ·simp only [Act.put, List.setIfInBounds_toArray, List.set_cons_zero, List.set_cons_succ, i64_w, i32_w]
           rfl
          refine pure_ (i := 29) (N := some 53) (v := ?_) (a' := ?_) #[T6_,T6_,T6_,T6_,T6_,T6_,T6_,T6_,T6_,T6_,T6_,T6_,T6_,T6_,T6_,T6_,T6_,T6_,T6_,T6_,T6_,T6_,T6_,T6_,T6_,T6_,T6_,T6_,T6_,T6_,F6_,F6_,F6_,F6_,F6_,F6_,F6_,F6_,F6_,F6_,F6_,F6_,F6_,F6_,F6_] rfl rfl (any_of HT_.out (by kernel_rfl)) (fun _ _ _ h => h) (Or.inl ⟨by rfl, ?_⟩) ?_ ?_
          rotate_left
          ·intro w'
           go_simp
           with_reducible rfl
          rotate_left
          ·simp only [Act.put, List.setIfInBounds_toArray, List.set_cons_zero, List.set_cons_succ, i64_w, i32_w]
           rfl
          refine pure_ (i := 30) (N := some 54) (v := undef) (a' := ?_) #[T6_,T6_,T6_,T6_,T6_,T6_,T6_,T6_,T6_,T6_,T6_,T6_,T6_,T6_,T6_,T6_,T6_,T6_,T6_,T6_,T6_,T6_,T6_,T6_,T6_,T6_,T6_,T6_,T6_,T6_,T6_,F6_,F6_,F6_,F6_,F6_,F6_,F6_,F6_,F6_,F6_,F6_,F6_,F6_,F6_] rfl rfl (any_of HT_.out (by kernel_rfl)) (fun _ _ _ h => h) (Or.inr ⟨by rfl, rfl⟩) ?_ ?_
          rotate_left
          ·simp only [Act.put, List.setIfInBounds_toArray, List.set_cons_zero, List.set_cons_succ, i64_w, i32_w]
           rfl
          refine pure_ (i := 31) (N := some 55) (v := undef) (a' := ?_) #[T6_,T6_,T6_,T6_,T6_,T6_,T6_,T6_,T6_,T6_,T6_,T6_,T6_,T6_,T6_,T6_,T6_,T6_,T6_,T6_,T6_,T6_,T6_,T6_,T6_,T6_,T6_,T6_,T6_,T6_,T6_,T6_,F6_,F6_,F6_,F6_,F6_,F6_,F6_,F6_,F6_,F6_,F6_,F6_,F6_] rfl rfl (any_of HT_.out (by kernel_rfl)) (fun _ _ _ h => h) (Or.inr ⟨by rfl, rfl⟩) ?_ ?_
          rotate_left
          ·simp only [Act.put, List.setIfInBounds_toArray, List.set_cons_zero, List.set_cons_succ, i64_w, i32_w]
           rfl
          refine pure_ (i := 32) (N := some 56) (v := undef) (a' := ?_) #[T6_,T6_,T6_,T6_,T6_,T6_,T6_,T6_,T6_,T6_,T6_,T6_,T6_,T6_,T6_,T6_,T6_,T6_,T6_,T6_,T6_,T6_,T6_,T6_,T6_,T6_,T6_,T6_,T6_,T6_,T6_,T6_,T6_,F6_,F6_,F6_,F6_,F6_,F6_,F6_,F6_,F6_,F6_,F6_,F6_] rfl rfl (any_of HT_.out (by kernel_rfl)) (fun _ _ _ h => h) (Or.inr ⟨by rfl, rfl⟩) ?_ ?_
          rotate_left
          ·simp only [Act.put, List.setIfInBounds_toArray, List.set_cons_zero, List.set_cons_succ, i64_w, i32_w]
           rfl
          refine pure_ (i := 33) (N := some 57) (v := undef) (a' := ?_) #[T6_,T6_,T6_,T6_,T6_,T6_,T6_,T6_,T6_,T6_,T6_,T6_,T6_,T6_,T6_,T6_,T6_,T6_,T6_,T6_,T6_,T6_,T6_,T6_,T6_,T6_,T6_,T6_,T6_,T6_,T6_,T6_,T6_,T6_,F6_,F6_,F6_,F6_,F6_,F6_,F6_,F6_,F6_,F6_,F6_] rfl rfl (any_of HT_.out (by kernel_rfl)) (fun _ _ _ h => h) (Or.inr ⟨by rfl, rfl⟩) ?_ ?_
          rotate_left
          ·simp only [Act.put, List.setIfInBounds_toArray, List.set_cons_zero, List.set_cons_succ, i64_w, i32_w]
           rfl
          refine pure_ (i := 34) (N := some 58) (v := undef) (a' := ?_) #[T6_,T6_,T6_,T6_,T6_,T6_,T6_,T6_,T6_,T6_,T6_,T6_,T6_,T6_,T6_,T6_,T6_,T6_,T6_,T6_,T6_,T6_,T6_,T6_,T6_,T6_,T6_,T6_,T6_,T6_,T6_,T6_,T6_,T6_,T6_,F6_,F6_,F6_,F6_,F6_,F6_,F6_,F6_,F6_,F6_] rfl rfl (any_of HT_.out (by kernel_rfl)) (fun _ _ _ h => h) (Or.inr ⟨by rfl, rfl⟩) ?_ ?_
          rotate_left
          ·simp only [Act.put, List.setIfInBounds_toArray, List.set_cons_zero, List.set_cons_succ, i64_w, i32_w]
           rfl
          refine pure_ (i := 35) (N := some 59) (v := undef) (a' := ?_) #[T6_,T6_,T6_,T6_,T6_,T6_,T6_,T6_,T6_,T6_,T6_,T6_,T6_,T6_,T6_,T6_,T6_,T6_,T6_,T6_,T6_,T6_,T6_,T6_,T6_,T6_,T6_,T6_,T6_,T6_,T6_,T6_,T6_,T6_,T6_,T6_,F6_,F6_,F6_,F6_,F6_,F6_,F6_,F6_,F6_] rfl rfl (any_of HT_.out (by kernel_rfl)) (fun _ _ _ h => h) (Or.inr ⟨by rfl, rfl⟩) ?_ ?_
          rotate_left
          ·simp only [Act.put, List.setIfInBounds_toArray, List.set_cons_zero, List.set_cons_succ, i64_w, i32_w]
           rfl
          refine pure_ (i := 36) (N := some 60) (v := undef) (a' := ?_) #[T6_,T6_,T6_,T6_,T6_,T6_,T6_,T6_,T6_,T6_,T6_,T6_,T6_,T6_,T6_,T6_,T6_,T6_,T6_,T6_,T6_,T6_,T6_,T6_,T6_,T6_,T6_,T6_,T6_,T6_,T6_,T6_,T6_,T6_,T6_,T6_,T6_,F6_,F6_,F6_,F6_,F6_,F6_,F6_,F6_] rfl rfl (any_of HT_.out (by kernel_rfl)) (fun _ _ _ h => h) (Or.inr ⟨by rfl, rfl⟩) ?_ ?_
          rotate_left
          ·simp only [Act.put, List.setIfInBounds_toArray, List.set_cons_zero, List.set_cons_succ, i64_w, i32_w]
           rfl
          refine pure_ (i := 37) (N := some 61) (v := undef) (a' := ?_) #[T6_,T6_,T6_,T6_,T6_,T6_,T6_,T6_,T6_,T6_,T6_,T6_,T6_,T6_,T6_,T6_,T6_,T6_,T6_,T6_,T6_,T6_,T6_,T6_,T6_,T6_,T6_,T6_,T6_,T6_,T6_,T6_,T6_,T6_,T6_,T6_,T6_,T6_,F6_,F6_,F6_,F6_,F6_,F6_,F6_] rfl rfl (any_of HT_.out (by kernel_rfl)) (fun _ _ _ h => h) (Or.inr ⟨by rfl, rfl⟩) ?_ ?_
          rotate_left
          ·simp only [Act.put, List.setIfInBounds_toArray, List.set_cons_zero, List.set_cons_succ, i64_w, i32_w]
           rfl
          refine pure_ (i := 38) (N := some 62) (v := undef) (a' := ?_) #[T6_,T6_,T6_,T6_,T6_,T6_,T6_,T6_,T6_,T6_,T6_,T6_,T6_,T6_,T6_,T6_,T6_,T6_,T6_,T6_,T6_,T6_,T6_,T6_,T6_,T6_,T6_,T6_,T6_,T6_,T6_,T6_,T6_,T6_,T6_,T6_,T6_,T6_,T6_,F6_,F6_,F6_,F6_,F6_,F6_] rfl rfl (any_of HT_.out (by kernel_rfl)) (fun _ _ _ h => h) (Or.inr ⟨by rfl, rfl⟩) ?_ ?_
          rotate_left
          ·simp only [Act.put, List.setIfInBounds_toArray, List.set_cons_zero, List.set_cons_succ, i64_w, i32_w]
           rfl
          refine pure_ (i := 39) (N := some 63) (v := undef) (a' := ?_) #[T6_,T6_,T6_,T6_,T6_,T6_,T6_,T6_,T6_,T6_,T6_,T6_,T6_,T6_,T6_,T6_,T6_,T6_,T6_,T6_,T6_,T6_,T6_,T6_,T6_,T6_,T6_,T6_,T6_,T6_,T6_,T6_,T6_,T6_,T6_,T6_,T6_,T6_,T6_,T6_,F6_,F6_,F6_,F6_,F6_] rfl rfl (any_of HT_.out (by kernel_rfl)) (fun _ _ _ h => h) (Or.inr ⟨by rfl, rfl⟩) ?_ ?_
          rotate_left
          ·simp only [Act.put, List.setIfInBounds_toArray, List.set_cons_zero, List.set_cons_succ, i64_w, i32_w]
           rfl
          refine pure_ (i := 40) (N := some 64) (v := undef) (a' := ?_) #[T6_,T6_,T6_,T6_,T6_,T6_,T6_,T6_,T6_,T6_,T6_,T6_,T6_,T6_,T6_,T6_,T6_,T6_,T6_,T6_,T6_,T6_,T6_,T6_,T6_,T6_,T6_,T6_,T6_,T6_,T6_,T6_,T6_,T6_,T6_,T6_,T6_,T6_,T6_,T6_,T6_,F6_,F6_,F6_,F6_] rfl rfl (any_of HT_.out (by kernel_rfl)) (fun _ _ _ h => h) (Or.inr ⟨by rfl, rfl⟩) ?_ ?_
          rotate_left
          ·simp only [Act.put, List.setIfInBounds_toArray, List.set_cons_zero, List.set_cons_succ, i64_w, i32_w]
           rfl
          refine pure_ (i := 41) (N := some 65) (v := undef) (a' := ?_) #[T6_,T6_,T6_,T6_,T6_,T6_,T6_,T6_,T6_,T6_,T6_,T6_,T6_,T6_,T6_,T6_,T6_,T6_,T6_,T6_,T6_,T6_,T6_,T6_,T6_,T6_,T6_,T6_,T6_,T6_,T6_,T6_,T6_,T6_,T6_,T6_,T6_,T6_,T6_,T6_,T6_,T6_,F6_,F6_,F6_] rfl rfl (any_of HT_.out (by kernel_rfl)) (fun _ _ _ h => h) (Or.inr ⟨by rfl, rfl⟩) ?_ ?_
          rotate_left
          ·simp only [Act.put, List.setIfInBounds_toArray, List.set_cons_zero, List.set_cons_succ, i64_w, i32_w]
           rfl
          refine pure_ (i := 42) (N := some 66) (v := undef) (a' := ?_) #[T6_,T6_,T6_,T6_,T6_,T6_,T6_,T6_,T6_,T6_,T6_,T6_,T6_,T6_,T6_,T6_,T6_,T6_,T6_,T6_,T6_,T6_,T6_,T6_,T6_,T6_,T6_,T6_,T6_,T6_,T6_,T6_,T6_,T6_,T6_,T6_,T6_,T6_,T6_,T6_,T6_,T6_,T6_,F6_,F6_] rfl rfl (any_of HT_.out (by kernel_rfl)) (fun _ _ _ h => h) (Or.inr ⟨by rfl, rfl⟩) ?_ ?_
          rotate_left
          ·simp only [Act.put, List.setIfInBounds_toArray, List.set_cons_zero, List.set_cons_succ, i64_w, i32_w]
           rfl
          refine pure_ (i := 43) (N := some 67) (v := undef) (a' := ?_) #[T6_,T6_,T6_,T6_,T6_,T6_,T6_,T6_,T6_,T6_,T6_,T6_,T6_,T6_,T6_,T6_,T6_,T6_,T6_,T6_,T6_,T6_,T6_,T6_,T6_,T6_,T6_,T6_,T6_,T6_,T6_,T6_,T6_,T6_,T6_,T6_,T6_,T6_,T6_,T6_,T6_,T6_,T6_,T6_,F6_] rfl rfl (any_of HT_.out (by kernel_rfl)) (fun _ _ _ h => h) (Or.inr ⟨by rfl, rfl⟩) ?_ ?_
          rotate_left
          ·simp only [Act.put, List.setIfInBounds_toArray, List.set_cons_zero, List.set_cons_succ, i64_w, i32_w]
           rfl
          refine pure_ (i := 44) (N := some 68) (v := ?_) (a' := ?_) #[T6_,T6_,T6_,T6_,T6_,T6_,T6_,T6_,T6_,T6_,T6_,T6_,T6_,T6_,T6_,T6_,T6_,T6_,T6_,T6_,T6_,T6_,T6_,T6_,T6_,T6_,T6_,T6_,T6_,T6_,T6_,T6_,T6_,T6_,T6_,T6_,T6_,T6_,T6_,T6_,T6_,T6_,T6_,T6_,T6_] rfl rfl (any_of HT_.out (by kernel_rfl)) (fun _ _ _ h => h) (Or.inl ⟨by rfl, ?_⟩) ?_ ?_
          rotate_left
          ·intro w'
           go_simp
           with_reducible rfl
          rotate_left
          ·simp only [Act.put, List.setIfInBounds_toArray, List.set_cons_zero, List.set_cons_succ, i64_w, i32_w]
           rfl
          refine done_ (done_of HT_.out (by kernel_rfl)) ?_
          try go_wp2
          (try simp only [← hji16])
          go_meet
          case rel => exact ⟨_, (true), (by first | rfl | (simp; done) | (simp [*]; done)), (by first | exact H' | exact ⟨by rw [hji16]; exact H'.out⟩ | exact ⟨by rw [← hji16]; exact H'.out⟩), ⟨by first | omega | exact Nat.le_refl _⟩, ⟨HBu HB.out⟩⟩
         ·rw [if_neg c19] at H
          have c19b0 : decide (a3 < (rd l0 (ji16))) = false := decide_eq_false c19
          clear c19
          by_cases c21 : 0 ≤ a1
          ·rw [if_pos c21] at H
           have c21b0 : decide (0 ≤ a1) = true := decide_eq_true c21
           clear c21
           by_cases c22 : a1 < (l0.length : Int)
           ·rw [if_pos c22] at H
            have c22b0 : decide (a1 < (l0.length : Int)) = true := decide_eq_true c22
            clear c22
            by_cases c23 : a2 = 0
            ·rw [if_pos c23] at H
             exact absurd H (by simp)
            ·rw [if_neg c23] at H
             have c23b0 : (a2 == 0) = false := beq_eq_false_iff_ne.mpr c23
             have c23b1 : (a2 != 0) = true := bne_iff_ne.mpr c23
             have H' := Aside0.mk H
             clear H
             try go_wp2
             replace HB := Aside0.mk (below_drew1 HB.out)
             have p226 : 0 ≤ ((ji16) : Int) := of_decide_eq_true (by first | (with_reducible assumption) | assumption)
             have q226 : (ji16) < (l0.length : Int) := of_decide_eq_true (by first | (with_reducible assumption) | assumption)
             obtain ⟨ad226, e226, hx226_0⟩ := Kd.at_int HR0.out (ji16) p226 q226
             have hw226_0 := hx226_0
             cases e226
             replace hx226_0 := (HB.out.cell (World.block_lt_of_cell? w _ hx226_0)).trans hx226_0
             replace p226 := eq_true p226
             replace q226 := eq_true q226
             have p227 : 0 ≤ (a1 : Int) := of_decide_eq_true (by first | (with_reducible assumption) | assumption)
             have q227 : a1 < (l0.length : Int) := of_decide_eq_true (by first | (with_reducible assumption) | assumption)
             obtain ⟨ad227, e227, hx227_0⟩ := Kd.at_int HR0.out a1 p227 q227
             have hw227_0 := hx227_0
             obtain rfl : ad226 = ad227 := (by injection e227)
             replace hx227_0 := (HB.out.cell (World.block_lt_of_cell? w _ hx227_0)).trans hx227_0
             replace p227 := eq_true p227
             replace q227 := eq_true q227
             have p228 : 0 ≤ ((ji16) : Int) := of_decide_eq_true (by first | (with_reducible assumption) | assumption)
             have q228 : (ji16) < (l0.length : Int) := of_decide_eq_true (by first | (with_reducible assumption) | assumption)
             obtain ⟨ad228, e228, hx228_0⟩ := Kd.at_int HR0.out (ji16) p228 q228
             have hw228_0 := hx228_0
             obtain rfl : ad226 = ad228 := (by injection e228)
             replace hx228_0 := (HB.out.cell (World.block_lt_of_cell? w _ hx228_0)).trans hx228_0
             replace p228 := eq_true p228
             replace q228 := eq_true q228
             refine start_ (n := 45) (S := fun w' => w'.cell? (ad226.add ((ji16)).toNat) = some (.int .i64 (rd l0 (ji16))) ∧ w'.cell? (ad226.add (a1).toNat) = some (.int .i64 (rd l0 a1)) ∧ w'.cell? (ad226.add ((ji16)).toNat) = some (.int .i64 (rd l0 (ji16)))) (ds := []) #[F6_,F6_,F6_,F6_,F6_,F6_,F6_,F6_,F6_,F6_,F6_,F6_,F6_,F6_,F6_,F6_,F6_,F6_,F6_,F6_,F6_,F6_,F6_,F6_,F6_,F6_,F6_,F6_,F6_,F6_,F6_,F6_,F6_,F6_,F6_,F6_,F6_,F6_,F6_,F6_,F6_,F6_,F6_,F6_,F6_] (by kernel_rfl) rfl rfl ⟨((HB.out.cell (World.block_lt_of_cell? w _ hw226_0)).trans hw226_0), ((HB.out.cell (World.block_lt_of_cell? w _ hw227_0)).trans hw227_0), ((HB.out.cell (World.block_lt_of_cell? w _ hw228_0)).trans hw228_0)⟩ (fun hHeld => ?_); refine with_tabW impl_foldPairs.tab2 impl_foldPairs.bits2 (fun HT_ HW_ => ?_)
             generalize w.drew = w24 at HB hx226_0 hx227_0 hx228_0 hHeld ⊢
             refine pure_ (i := 0) (N := some 24) (v := ?_) (a' := ?_) #[T6_,F6_,F6_,F6_,F6_,F6_,F6_,F6_,F6_,F6_,F6_,F6_,F6_,F6_,F6_,F6_,F6_,F6_,F6_,F6_,F6_,F6_,F6_,F6_,F6_,F6_,F6_,F6_,F6_,F6_,F6_,F6_,F6_,F6_,F6_,F6_,F6_,F6_,F6_,F6_,F6_,F6_,F6_,F6_,F6_] rfl rfl (any_of HT_.out (by kernel_rfl)) (fun _ _ _ h => h) (Or.inl ⟨by rfl, ?_⟩) ?_ ?_
             rotate_left
             ·intro w'
              go_simp
              with_reducible rfl
             rotate_left
             ·simp only [Act.put, List.setIfInBounds_toArray, List.set_cons_zero, List.set_cons_succ, i64_w, i32_w]
              rfl
             refine pure_ (i := 1) (N := some 25) (v := ?_) (a' := ?_) #[T6_,T6_,F6_,F6_,F6_,F6_,F6_,F6_,F6_,F6_,F6_,F6_,F6_,F6_,F6_,F6_,F6_,F6_,F6_,F6_,F6_,F6_,F6_,F6_,F6_,F6_,F6_,F6_,F6_,F6_,F6_,F6_,F6_,F6_,F6_,F6_,F6_,F6_,F6_,F6_,F6_,F6_,F6_,F6_,F6_] rfl rfl (any_of HT_.out (by kernel_rfl)) (fun _ _ _ h => h) (Or.inl ⟨by rfl, ?_⟩) ?_ ?_
             rotate_left
             ·intro w'
              go_simp
              with_reducible rfl
             rotate_left
             ·simp only [Act.put, List.setIfInBounds_toArray, List.set_cons_zero, List.set_cons_succ, i64_w, i32_w]
              rfl
             refine one_ (i := 2) (N := some 26) #[T6_,T6_,T6_,F6_,F6_,F6_,F6_,F6_,F6_,F6_,F6_,F6_,F6_,F6_,F6_,F6_,F6_,F6_,F6_,F6_,F6_,F6_,F6_,F6_,F6_,F6_,F6_,F6_,F6_,F6_,F6_,F6_,F6_,F6_,F6_,F6_,F6_,F6_,F6_,F6_,F6_,F6_,F6_,F6_,F6_] rfl rfl (one_of HT_.out (by kernel_rfl)) (by decide) (fun K hK => ?_)
             refine goes_ Try.func78 (by kernel_rfl) rfl #[.slice _ l0.length c0, .int .i64 a1] (by rfl) rfl rfl (by (try simp only [List.map_toArray, List.map_cons, List.map_nil]); first | done | rfl | (simp only [List.length_drop, List.length_take]; rfl)) ?_
             with_reducible refine (impl_isAxis.calls _ _ l0 a1 true _ ?side1 ?side2 A6.out).mono ?_
             (case side1 => exact (Cu ((Kd.C_below HR0.out HB.out))))
             (case side2 => exact HC0.out)
             rintro e w' ⟨rfl, ⟨nd, rfl⟩⟩
             refine ⟨_, rfl, ?_⟩
             refine hK.out _ _ ⟨((HB.out.cell (World.block_lt_of_cell? w _ hw226_0)).trans hw226_0), ((HB.out.cell (World.block_lt_of_cell? w _ hw227_0)).trans hw227_0), ((HB.out.cell (World.block_lt_of_cell? w _ hw228_0)).trans hw228_0)⟩ (fun hHeld => ?_)
             clear hK K
             refine norm_ (a' := ?_) ?_ ?_
             rotate_left
             ·show Act.put _ (some 26) _ = _
              simp only [Act.put, List.setIfInBounds_toArray, List.set_cons_zero, List.set_cons_succ, i64_w, i32_w]
              rfl
             refine pure_ (i := 3) (N := some 27) (v := ?_) (a' := ?_) #[T6_,T6_,T6_,T6_,F6_,F6_,F6_,F6_,F6_,F6_,F6_,F6_,F6_,F6_,F6_,F6_,F6_,F6_,F6_,F6_,F6_,F6_,F6_,F6_,F6_,F6_,F6_,F6_,F6_,F6_,F6_,F6_,F6_,F6_,F6_,F6_,F6_,F6_,F6_,F6_,F6_,F6_,F6_,F6_,F6_] rfl rfl (any_of HT_.out (by kernel_rfl)) (fun _ _ _ h => h) (Or.inl ⟨by rfl, ?_⟩) ?_ ?_
             rotate_left
             ·intro w'
              go_simp
              with_reducible rfl
             rotate_left
             ·simp only [Act.put, List.setIfInBounds_toArray, List.set_cons_zero, List.set_cons_succ, i64_w, i32_w]
              rfl
             refine pure_ (i := 4) (N := some 28) (v := ?_) (a' := ?_) #[T6_,T6_,T6_,T6_,T6_,F6_,F6_,F6_,F6_,F6_,F6_,F6_,F6_,F6_,F6_,F6_,F6_,F6_,F6_,F6_,F6_,F6_,F6_,F6_,F6_,F6_,F6_,F6_,F6_,F6_,F6_,F6_,F6_,F6_,F6_,F6_,F6_,F6_,F6_,F6_,F6_,F6_,F6_,F6_,F6_] rfl rfl (any_of HT_.out (by kernel_rfl)) (fun _ _ _ h => h) (Or.inl ⟨by rfl, ?_⟩) ?_ ?_
             rotate_left
             ·intro w'
              go_simp
              with_reducible rfl
             rotate_left
             ·simp only [Act.put, List.setIfInBounds_toArray, List.set_cons_zero, List.set_cons_succ, i64_w, i32_w]
              rfl
             refine pure_ (i := 5) (N := some 29) (v := ?_) (a' := ?_) #[T6_,T6_,T6_,T6_,T6_,T6_,F6_,F6_,F6_,F6_,F6_,F6_,F6_,F6_,F6_,F6_,F6_,F6_,F6_,F6_,F6_,F6_,F6_,F6_,F6_,F6_,F6_,F6_,F6_,F6_,F6_,F6_,F6_,F6_,F6_,F6_,F6_,F6_,F6_,F6_,F6_,F6_,F6_,F6_,F6_] rfl rfl (any_of HT_.out (by kernel_rfl)) (fun _ _ _ h => h) (Or.inl ⟨by rfl, ?_⟩) ?_ ?_
             rotate_left
             ·intro w'
              go_simp
              with_reducible rfl
             rotate_left
             ·simp only [Act.put, List.setIfInBounds_toArray, List.set_cons_zero, List.set_cons_succ, i64_w, i32_w]
              rfl
             refine pure_ (i := 6) (N := some 30) (v := ?_) (a' := ?_) #[T6_,T6_,T6_,T6_,T6_,T6_,T6_,F6_,F6_,F6_,F6_,F6_,F6_,F6_,F6_,F6_,F6_,F6_,F6_,F6_,F6_,F6_,F6_,F6_,F6_,F6_,F6_,F6_,F6_,F6_,F6_,F6_,F6_,F6_,F6_,F6_,F6_,F6_,F6_,F6_,F6_,F6_,F6_,F6_,F6_] rfl rfl (any_of HT_.out (by kernel_rfl)) (fun _ _ _ h => h) (Or.inl ⟨by rfl, ?_⟩) ?_ ?_
             rotate_left
             ·intro w'
              go_simp
              with_reducible rfl
             rotate_left
             ·simp only [Act.put, List.setIfInBounds_toArray, List.set_cons_zero, List.set_cons_succ, i64_w, i32_w]
              rfl
             refine pure_ (i := 7) (N := some 31) (v := ?_) (a' := ?_) #[T6_,T6_,T6_,T6_,T6_,T6_,T6_,T6_,F6_,F6_,F6_,F6_,F6_,F6_,F6_,F6_,F6_,F6_,F6_,F6_,F6_,F6_,F6_,F6_,F6_,F6_,F6_,F6_,F6_,F6_,F6_,F6_,F6_,F6_,F6_,F6_,F6_,F6_,F6_,F6_,F6_,F6_,F6_,F6_,F6_] rfl rfl (any_of HT_.out (by kernel_rfl)) (fun _ _ _ h => h) (Or.inl ⟨by rfl, ?_⟩) ?_ ?_
             rotate_left
             ·intro w'
              go_simp
              with_reducible rfl
             rotate_left
             ·simp only [Act.put, List.setIfInBounds_toArray, List.set_cons_zero, List.set_cons_succ, i64_w, i32_w]
              rfl
             refine pure_ (i := 8) (N := some 32) (v := ?_) (a' := ?_) #[T6_,T6_,T6_,T6_,T6_,T6_,T6_,T6_,T6_,F6_,F6_,F6_,F6_,F6_,F6_,F6_,F6_,F6_,F6_,F6_,F6_,F6_,F6_,F6_,F6_,F6_,F6_,F6_,F6_,F6_,F6_,F6_,F6_,F6_,F6_,F6_,F6_,F6_,F6_,F6_,F6_,F6_,F6_,F6_,F6_] rfl rfl (any_of HT_.out (by kernel_rfl)) (fun _ _ _ h => h) (Or.inl ⟨by rfl, ?_⟩) ?_ ?_
             rotate_left
             ·intro w'
              go_simp
              with_reducible rfl
             rotate_left
             ·simp only [Act.put, List.setIfInBounds_toArray, List.set_cons_zero, List.set_cons_succ, i64_w, i32_w]
              rfl
             refine pure_ (i := 9) (N := some 33) (v := ?_) (a' := ?_) #[T6_,T6_,T6_,T6_,T6_,T6_,T6_,T6_,T6_,T6_,F6_,F6_,F6_,F6_,F6_,F6_,F6_,F6_,F6_,F6_,F6_,F6_,F6_,F6_,F6_,F6_,F6_,F6_,F6_,F6_,F6_,F6_,F6_,F6_,F6_,F6_,F6_,F6_,F6_,F6_,F6_,F6_,F6_,F6_,F6_] rfl rfl (any_of HT_.out (by kernel_rfl)) (fun _ _ _ h => h) (Or.inl ⟨by rfl, ?_⟩) ?_ ?_
             rotate_left
             ·intro w'
              go_simp
              with_reducible rfl
             rotate_left
             ·simp only [Act.put, List.setIfInBounds_toArray, List.set_cons_zero, List.set_cons_succ, i64_w, i32_w]
              rfl
             refine pure_ (i := 10) (N := some 34) (v := ?_) (a' := ?_) #[T6_,T6_,T6_,T6_,T6_,T6_,T6_,T6_,T6_,T6_,T6_,F6_,F6_,F6_,F6_,F6_,F6_,F6_,F6_,F6_,F6_,F6_,F6_,F6_,F6_,F6_,F6_,F6_,F6_,F6_,F6_,F6_,F6_,F6_,F6_,F6_,F6_,F6_,F6_,F6_,F6_,F6_,F6_,F6_,F6_] rfl rfl (any_of HT_.out (by kernel_rfl)) (fun _ _ _ h => h) (Or.inl ⟨by rfl, ?_⟩) ?_ ?_
             rotate_left
             ·intro w'
              go_simp
              with_reducible rfl
             rotate_left
             ·simp only [Act.put, List.setIfInBounds_toArray, List.set_cons_zero, List.set_cons_succ, i64_w, i32_w]
              rfl
             refine pure_ (i := 11) (N := some 35) (v := ?_) (a' := ?_) #[T6_,T6_,T6_,T6_,T6_,T6_,T6_,T6_,T6_,T6_,T6_,T6_,F6_,F6_,F6_,F6_,F6_,F6_,F6_,F6_,F6_,F6_,F6_,F6_,F6_,F6_,F6_,F6_,F6_,F6_,F6_,F6_,F6_,F6_,F6_,F6_,F6_,F6_,F6_,F6_,F6_,F6_,F6_,F6_,F6_] rfl rfl (any_of HT_.out (by kernel_rfl)) (fun _ _ _ h => h) (Or.inl ⟨by rfl, ?_⟩) ?_ ?_
             rotate_left
             ·intro w'
              go_simp
              with_reducible rfl
             rotate_left
             ·simp only [Act.put, List.setIfInBounds_toArray, List.set_cons_zero, List.set_cons_succ, i64_w, i32_w]
              rfl
             refine pure_ (i := 12) (N := some 36) (v := ?_) (a' := ?_) #[T6_,T6_,T6_,T6_,T6_,T6_,T6_,T6_,T6_,T6_,T6_,T6_,T6_,F6_,F6_,F6_,F6_,F6_,F6_,F6_,F6_,F6_,F6_,F6_,F6_,F6_,F6_,F6_,F6_,F6_,F6_,F6_,F6_,F6_,F6_,F6_,F6_,F6_,F6_,F6_,F6_,F6_,F6_,F6_,F6_] rfl rfl (any_of HT_.out (by kernel_rfl)) (fun _ _ _ h => h) (Or.inl ⟨by rfl, ?_⟩) ?_ ?_
             rotate_left
             ·intro w'
              go_simp
              with_reducible rfl
             rotate_left
             ·simp only [Act.put, List.setIfInBounds_toArray, List.set_cons_zero, List.set_cons_succ, i64_w, i32_w]
              rfl
             refine pure_ (i := 13) (N := some 37) (v := ?_) (a' := ?_) #[T6_,T6_,T6_,T6_,T6_,T6_,T6_,T6_,T6_,T6_,T6_,T6_,T6_,T6_,F6_,F6_,F6_,F6_,F6_,F6_,F6_,F6_,F6_,F6_,F6_,F6_,F6_,F6_,F6_,F6_,F6_,F6_,F6_,F6_,F6_,F6_,F6_,F6_,F6_,F6_,F6_,F6_,F6_,F6_,F6_] rfl rfl (any_of HT_.out (by kernel_rfl)) (fun _ _ _ h => h) (Or.inl ⟨by rfl, ?_⟩) ?_ ?_
             rotate_left
             ·intro w'
              go_simp
              with_reducible rfl
             rotate_left
             ·simp only [Act.put, List.setIfInBounds_toArray, List.set_cons_zero, List.set_cons_succ, i64_w, i32_w]
              rfl
             refine pure_ (i := 14) (N := some 38) (v := ?_) (a' := ?_) #[T6_,T6_,T6_,T6_,T6_,T6_,T6_,T6_,T6_,T6_,T6_,T6_,T6_,T6_,T6_,F6_,F6_,F6_,F6_,F6_,F6_,F6_,F6_,F6_,F6_,F6_,F6_,F6_,F6_,F6_,F6_,F6_,F6_,F6_,F6_,F6_,F6_,F6_,F6_,F6_,F6_,F6_,F6_,F6_,F6_] rfl rfl (any_of HT_.out (by kernel_rfl)) (fun _ _ _ h => h) (Or.inl ⟨by rfl, ?_⟩) ?_ ?_
             rotate_left
             ·intro w'
              go_simp
              with_reducible rfl
             rotate_left
             ·simp only [Act.put, List.setIfInBounds_toArray, List.set_cons_zero, List.set_cons_succ, i64_w, i32_w]
              rfl
             refine pure_ (i := 15) (N := some 39) (v := ?_) (a' := ?_) #[T6_,T6_,T6_,T6_,T6_,T6_,T6_,T6_,T6_,T6_,T6_,T6_,T6_,T6_,T6_,T6_,F6_,F6_,F6_,F6_,F6_,F6_,F6_,F6_,F6_,F6_,F6_,F6_,F6_,F6_,F6_,F6_,F6_,F6_,F6_,F6_,F6_,F6_,F6_,F6_,F6_,F6_,F6_,F6_,F6_] rfl rfl (any_of HT_.out (by kernel_rfl)) (fun _ _ _ h => h) (Or.inl ⟨by rfl, ?_⟩) ?_ ?_
             rotate_left
             ·intro w'
              go_simp
              with_reducible rfl
             rotate_left
             ·simp only [Act.put, List.setIfInBounds_toArray, List.set_cons_zero, List.set_cons_succ, i64_w, i32_w]
              rfl
             refine pure_ (i := 16) (N := some 40) (v := ?_) (a' := ?_) #[T6_,T6_,T6_,T6_,T6_,T6_,T6_,T6_,T6_,T6_,T6_,T6_,T6_,T6_,T6_,T6_,T6_,F6_,F6_,F6_,F6_,F6_,F6_,F6_,F6_,F6_,F6_,F6_,F6_,F6_,F6_,F6_,F6_,F6_,F6_,F6_,F6_,F6_,F6_,F6_,F6_,F6_,F6_,F6_,F6_] rfl rfl (any_of HT_.out (by kernel_rfl)) (fun _ _ _ h => h) (Or.inl ⟨by rfl, ?_⟩) ?_ ?_
             rotate_left
             ·intro w'
              go_simp
              with_reducible rfl
             rotate_left
             ·simp only [Act.put, List.setIfInBounds_toArray, List.set_cons_zero, List.set_cons_succ, i64_w, i32_w]
              rfl
             refine pure_ (i := 17) (N := some 41) (v := ?_) (a' := ?_) #[T6_,T6_,T6_,T6_,T6_,T6_,T6_,T6_,T6_,T6_,T6_,T6_,T6_,T6_,T6_,T6_,T6_,T6_,F6_,F6_,F6_,F6_,F6_,F6_,F6_,F6_,F6_,F6_,F6_,F6_,F6_,F6_,F6_,F6_,F6_,F6_,F6_,F6_,F6_,F6_,F6_,F6_,F6_,F6_,F6_] rfl rfl (any_of HT_.out (by kernel_rfl)) (fun _ _ _ h => h) (Or.inl ⟨by rfl, ?_⟩) ?_ ?_
             rotate_left
             ·intro w'
              go_simp
              with_reducible rfl
             rotate_left
             ·simp only [Act.put, List.setIfInBounds_toArray, List.set_cons_zero, List.set_cons_succ, i64_w, i32_w]
              rfl
             refine pure_ (i := 18) (N := some 42) (v := ?_) (a' := ?_) #[T6_,T6_,T6_,T6_,T6_,T6_,T6_,T6_,T6_,T6_,T6_,T6_,T6_,T6_,T6_,T6_,T6_,T6_,T6_,F6_,F6_,F6_,F6_,F6_,F6_,F6_,F6_,F6_,F6_,F6_,F6_,F6_,F6_,F6_,F6_,F6_,F6_,F6_,F6_,F6_,F6_,F6_,F6_,F6_,F6_] rfl rfl (any_of HT_.out (by kernel_rfl)) (fun _ _ _ h => h) (Or.inl ⟨by rfl, ?_⟩) ?_ ?_
             rotate_left
             ·intro w'
              go_simp
              with_reducible rfl
             rotate_left
             ·simp only [Act.put, List.setIfInBounds_toArray, List.set_cons_zero, List.set_cons_succ, i64_w, i32_w]
              rfl
             refine pure_ (i := 19) (N := some 43) (v := ?_) (a' := ?_) #[T6_,T6_,T6_,T6_,T6_,T6_,T6_,T6_,T6_,T6_,T6_,T6_,T6_,T6_,T6_,T6_,T6_,T6_,T6_,T6_,F6_,F6_,F6_,F6_,F6_,F6_,F6_,F6_,F6_,F6_,F6_,F6_,F6_,F6_,F6_,F6_,F6_,F6_,F6_,F6_,F6_,F6_,F6_,F6_,F6_] rfl rfl (any_of HT_.out (by kernel_rfl)) (fun _ _ _ h => h) (Or.inl ⟨by rfl, ?_⟩) ?_ ?_
             rotate_left
             ·intro w'
              go_simp
              with_reducible rfl
             rotate_left
             ·simp only [Act.put, List.setIfInBounds_toArray, List.set_cons_zero, List.set_cons_succ, i64_w, i32_w]
              rfl
             refine pure_ (i := 20) (N := some 44) (v := ?_) (a' := ?_) #[T6_,T6_,T6_,T6_,T6_,T6_,T6_,T6_,T6_,T6_,T6_,T6_,T6_,T6_,T6_,T6_,T6_,T6_,T6_,T6_,T6_,F6_,F6_,F6_,F6_,F6_,F6_,F6_,F6_,F6_,F6_,F6_,F6_,F6_,F6_,F6_,F6_,F6_,F6_,F6_,F6_,F6_,F6_,F6_,F6_] rfl rfl (any_of HT_.out (by kernel_rfl)) (fun _ _ _ h => h) (Or.inl ⟨by rfl, ?_⟩) ?_ ?_
             rotate_left
             ·intro w'
              go_simp
              with_reducible rfl
             rotate_left
             ·simp only [Act.put, List.setIfInBounds_toArray, List.set_cons_zero, List.set_cons_succ, i64_w, i32_w]
              rfl
             refine pure_ (i := 21) (N := some 45) (v := ?_) (a' := ?_) #[T6_,T6_,T6_,T6_,T6_,T6_,T6_,T6_,T6_,T6_,T6_,T6_,T6_,T6_,T6_,T6_,T6_,T6_,T6_,T6_,T6_,T6_,F6_,F6_,F6_,F6_,F6_,F6_,F6_,F6_,F6_,F6_,F6_,F6_,F6_,F6_,F6_,F6_,F6_,F6_,F6_,F6_,F6_,F6_,F6_] rfl rfl (any_of HT_.out (by kernel_rfl)) (fun _ _ _ h => h) (Or.inl ⟨by rfl, ?_⟩) ?_ ?_
             rotate_left
             ·intro w'
              go_simp
              with_reducible rfl
             rotate_left
             ·simp only [Act.put, List.setIfInBounds_toArray, List.set_cons_zero, List.set_cons_succ, i64_w, i32_w]
              rfl
             refine pure_ (i := 22) (N := some 46) (v := ?_) (a' := ?_) #[T6_,T6_,T6_,T6_,T6_,T6_,T6_,T6_,T6_,T6_,T6_,T6_,T6_,T6_,T6_,T6_,T6_,T6_,T6_,T6_,T6_,T6_,T6_,F6_,F6_,F6_,F6_,F6_,F6_,F6_,F6_,F6_,F6_,F6_,F6_,F6_,F6_,F6_,F6_,F6_,F6_,F6_,F6_,F6_,F6_] rfl rfl (any_of HT_.out (by kernel_rfl)) (fun _ _ _ h => h) (Or.inl ⟨by rfl, ?_⟩) ?_ ?_
             rotate_left
             ·intro w'
              go_simp
              with_reducible rfl
             rotate_left
             ·simp only [Act.put, List.setIfInBounds_toArray, List.set_cons_zero, List.set_cons_succ, i64_w, i32_w]
              rfl
             refine pure_ (i := 23) (N := some 47) (v := ?_) (a' := ?_) #[T6_,T6_,T6_,T6_,T6_,T6_,T6_,T6_,T6_,T6_,T6_,T6_,T6_,T6_,T6_,T6_,T6_,T6_,T6_,T6_,T6_,T6_,T6_,T6_,F6_,F6_,F6_,F6_,F6_,F6_,F6_,F6_,F6_,F6_,F6_,F6_,F6_,F6_,F6_,F6_,F6_,F6_,F6_,F6_,F6_] rfl rfl (any_of HT_.out (by kernel_rfl)) (fun _ _ _ h => h) (Or.inl ⟨by rfl, ?_⟩) ?_ ?_
             rotate_left
             ·intro w'
              go_simp
              with_reducible rfl
             rotate_left
             ·simp only [Act.put, List.setIfInBounds_toArray, List.set_cons_zero, List.set_cons_succ, i64_w, i32_w]
              rfl
             refine pure_ (i := 24) (N := some 48) (v := ?_) (a' := ?_) #[T6_,T6_,T6_,T6_,T6_,T6_,T6_,T6_,T6_,T6_,T6_,T6_,T6_,T6_,T6_,T6_,T6_,T6_,T6_,T6_,T6_,T6_,T6_,T6_,T6_,F6_,F6_,F6_,F6_,F6_,F6_,F6_,F6_,F6_,F6_,F6_,F6_,F6_,F6_,F6_,F6_,F6_,F6_,F6_,F6_] rfl rfl (any_of HT_.out (by kernel_rfl)) (fun _ _ _ h => h) (Or.inl ⟨by rfl, ?_⟩) ?_ ?_
             rotate_left
             ·intro w'
              go_simp
              with_reducible rfl
             rotate_left
             ·simp only [Act.put, List.setIfInBounds_toArray, List.set_cons_zero, List.set_cons_succ, i64_w, i32_w]
              rfl
             refine pure_ (i := 26) (N := some 50) (v := ?_) (a' := ?_) #[T6_,T6_,T6_,T6_,T6_,T6_,T6_,T6_,T6_,T6_,T6_,T6_,T6_,T6_,T6_,T6_,T6_,T6_,T6_,T6_,T6_,T6_,T6_,T6_,T6_,F6_,T6_,F6_,F6_,F6_,F6_,F6_,F6_,F6_,F6_,F6_,F6_,F6_,F6_,F6_,F6_,F6_,F6_,F6_,F6_] rfl rfl (any_of HT_.out (by kernel_rfl)) (fun _ _ _ h => h) (Or.inl ⟨by rfl, ?_⟩) ?_ ?_
             rotate_left
             ·intro w'
              go_simp
              with_reducible rfl
             rotate_left
             ·simp only [Act.put, List.setIfInBounds_toArray, List.set_cons_zero, List.set_cons_succ, i64_w, i32_w]
              rfl
             refine take_ (i := 25) (N := some 49) (v := ?_) (a' := ?_) #[T6_,T6_,T6_,T6_,T6_,T6_,T6_,T6_,T6_,T6_,T6_,T6_,T6_,T6_,T6_,T6_,T6_,T6_,T6_,T6_,T6_,T6_,T6_,T6_,T6_,T6_,T6_,F6_,F6_,F6_,F6_,F6_,F6_,F6_,F6_,F6_,F6_,F6_,F6_,F6_,F6_,F6_,F6_,F6_,F6_] rfl rfl (take_ofW HT_.out HW_.out (by kernel_rfl)) (fun _ _ _ h => h) (Or.inl ⟨by rfl, ?_⟩) hHeld ?_ ?_
             rotate_left
             ·rintro w' ⟨s0, s1, s2⟩
              go_simp
              with_reducible rfl
             rotate_left
             ·simp only [Act.put, List.setIfInBounds_toArray, List.set_cons_zero, List.set_cons_succ, i64_w, i32_w]
              rfl
             refine pure_ (i := 27) (N := some 51) (v := ?_) (a' := ?_) #[T6_,T6_,T6_,T6_,T6_,T6_,T6_,T6_,T6_,T6_,T6_,T6_,T6_,T6_,T6_,T6_,T6_,T6_,T6_,T6_,T6_,T6_,T6_,T6_,T6_,T6_,T6_,T6_,F6_,F6_,F6_,F6_,F6_,F6_,F6_,F6_,F6_,F6_,F6_,F6_,F6_,F6_,F6_,F6_,F6_] rfl rfl (any_of HT_.out (by kernel_rfl)) (fun _ _ _ h => h) (Or.inl ⟨by rfl, ?_⟩) ?_ ?_
             rotate_left
             ·intro w'
              go_simp
              with_reducible rfl
             rotate_left
             ·simp only [Act.put, List.setIfInBounds_toArray, List.set_cons_zero, List.set_cons_succ, i64_w, i32_w]
              rfl
             refine pure_ (i := 28) (N := some 52) (v := ?_) (a' := ?_) #[T6_,T6_,T6_,T6_,T6_,T6_,T6_,T6_,T6_,T6_,T6_,T6_,T6_,T6_,T6_,T6_,T6_,T6_,T6_,T6_,T6_,T6_,T6_,T6_,T6_,T6_,T6_,T6_,T6_,F6_,F6_,F6_,F6_,F6_,F6_,F6_,F6_,F6_,F6_,F6_,F6_,F6_,F6_,F6_,F6_] rfl rfl (any_of HT_.out (by kernel_rfl)) (fun _ _ _ h => h) (Or.inl ⟨by rfl, ?_⟩) ?_ ?_
             rotate_left
             ·intro w'
              go_simp
              with_reducible rfl
             rotate_left
             ·simp only [Act.put, List.setIfInBounds_toArray, List.set_cons_zero, List.set_cons_succ, i64_w, i32_w]
              rfl
             refine pure_ (i := 29) (N := some 53) (v := ?_) (a' := ?_) #[T6_,T6_,T6_,T6_,T6_,T6_,T6_,T6_,T6_,T6_,T6_,T6_,T6_,T6_,T6_,T6_,T6_,T6_,T6_,T6_,T6_,T6_,T6_,T6_,T6_,T6_,T6_,T6_,T6_,T6_,F6_,F6_,F6_,F6_,F6_,F6_,F6_,F6_,F6_,F6_,F6_,F6_,F6_,F6_,F6_] rfl rfl (any_of HT_.out (by kernel_rfl)) (fun _ _ _ h => h) (Or.inl ⟨by rfl, ?_⟩) ?_ ?_
             rotate_left
             ·intro w'
              go_simp
              with_reducible rfl
             rotate_left
             ·simp only [Act.put, List.setIfInBounds_toArray, List.set_cons_zero, List.set_cons_succ, i64_w, i32_w]
              rfl
             refine pure_ (i := 30) (N := some 54) (v := ?_) (a' := ?_) #[T6_,T6_,T6_,T6_,T6_,T6_,T6_,T6_,T6_,T6_,T6_,T6_,T6_,T6_,T6_,T6_,T6_,T6_,T6_,T6_,T6_,T6_,T6_,T6_,T6_,T6_,T6_,T6_,T6_,T6_,T6_,F6_,F6_,F6_,F6_,F6_,F6_,F6_,F6_,F6_,F6_,F6_,F6_,F6_,F6_] rfl rfl (any_of HT_.out (by kernel_rfl)) (fun _ _ _ h => h) (Or.inl ⟨by rfl, ?_⟩) ?_ ?_
             rotate_left
             ·intro w'
              go_simp
              with_reducible rfl
             rotate_left
             ·simp only [Act.put, List.setIfInBounds_toArray, List.set_cons_zero, List.set_cons_succ, i64_w, i32_w]
              rfl
             refine pure_ (i := 31) (N := some 55) (v := ?_) (a' := ?_) #[T6_,T6_,T6_,T6_,T6_,T6_,T6_,T6_,T6_,T6_,T6_,T6_,T6_,T6_,T6_,T6_,T6_,T6_,T6_,T6_,T6_,T6_,T6_,T6_,T6_,T6_,T6_,T6_,T6_,T6_,T6_,T6_,F6_,F6_,F6_,F6_,F6_,F6_,F6_,F6_,F6_,F6_,F6_,F6_,F6_] rfl rfl (any_of HT_.out (by kernel_rfl)) (fun _ _ _ h => h) (Or.inl ⟨by rfl, ?_⟩) ?_ ?_
             rotate_left
             ·intro w'
              go_simp
              with_reducible rfl
             rotate_left
             ·simp only [Act.put, List.setIfInBounds_toArray, List.set_cons_zero, List.set_cons_succ, i64_w, i32_w]
              rfl
             refine pure_ (i := 32) (N := some 56) (v := ?_) (a' := ?_) #[T6_,T6_,T6_,T6_,T6_,T6_,T6_,T6_,T6_,T6_,T6_,T6_,T6_,T6_,T6_,T6_,T6_,T6_,T6_,T6_,T6_,T6_,T6_,T6_,T6_,T6_,T6_,T6_,T6_,T6_,T6_,T6_,T6_,F6_,F6_,F6_,F6_,F6_,F6_,F6_,F6_,F6_,F6_,F6_,F6_] rfl rfl (any_of HT_.out (by kernel_rfl)) (fun _ _ _ h => h) (Or.inl ⟨by rfl, ?_⟩) ?_ ?_
             rotate_left
             ·intro w'
              go_simp
              with_reducible rfl
             rotate_left
             ·simp only [Act.put, List.setIfInBounds_toArray, List.set_cons_zero, List.set_cons_succ, i64_w, i32_w]
              rfl
             refine pure_ (i := 34) (N := some 58) (v := ?_) (a' := ?_) #[T6_,T6_,T6_,T6_,T6_,T6_,T6_,T6_,T6_,T6_,T6_,T6_,T6_,T6_,T6_,T6_,T6_,T6_,T6_,T6_,T6_,T6_,T6_,T6_,T6_,T6_,T6_,T6_,T6_,T6_,T6_,T6_,T6_,F6_,T6_,F6_,F6_,F6_,F6_,F6_,F6_,F6_,F6_,F6_,F6_] rfl rfl (any_of HT_.out (by kernel_rfl)) (fun _ _ _ h => h) (Or.inl ⟨by rfl, ?_⟩) ?_ ?_
             rotate_left
             ·intro w'
              go_simp
              with_reducible rfl
             rotate_left
             ·simp only [Act.put, List.setIfInBounds_toArray, List.set_cons_zero, List.set_cons_succ, i64_w, i32_w]
              rfl
             refine pure_ (i := 35) (N := some 59) (v := ?_) (a' := ?_) #[T6_,T6_,T6_,T6_,T6_,T6_,T6_,T6_,T6_,T6_,T6_,T6_,T6_,T6_,T6_,T6_,T6_,T6_,T6_,T6_,T6_,T6_,T6_,T6_,T6_,T6_,T6_,T6_,T6_,T6_,T6_,T6_,T6_,F6_,T6_,T6_,F6_,F6_,F6_,F6_,F6_,F6_,F6_,F6_,F6_] rfl rfl (any_of HT_.out (by kernel_rfl)) (fun _ _ _ h => h) (Or.inl ⟨by rfl, ?_⟩) ?_ ?_
             rotate_left
             ·intro w'
              go_simp
              with_reducible rfl
             rotate_left
             ·simp only [Act.put, List.setIfInBounds_toArray, List.set_cons_zero, List.set_cons_succ, i64_w, i32_w]
              rfl
             refine pure_ (i := 36) (N := some 60) (v := ?_) (a' := ?_) #[T6_,T6_,T6_,T6_,T6_,T6_,T6_,T6_,T6_,T6_,T6_,T6_,T6_,T6_,T6_,T6_,T6_,T6_,T6_,T6_,T6_,T6_,T6_,T6_,T6_,T6_,T6_,T6_,T6_,T6_,T6_,T6_,T6_,F6_,T6_,T6_,T6_,F6_,F6_,F6_,F6_,F6_,F6_,F6_,F6_] rfl rfl (any_of HT_.out (by kernel_rfl)) (fun _ _ _ h => h) (Or.inl ⟨by rfl, ?_⟩) ?_ ?_
             rotate_left
             ·intro w'
              go_simp
              with_reducible rfl
             rotate_left
             ·simp only [Act.put, List.setIfInBounds_toArray, List.set_cons_zero, List.set_cons_succ, i64_w, i32_w]
              rfl
             refine pure_ (i := 37) (N := some 61) (v := ?_) (a' := ?_) #[T6_,T6_,T6_,T6_,T6_,T6_,T6_,T6_,T6_,T6_,T6_,T6_,T6_,T6_,T6_,T6_,T6_,T6_,T6_,T6_,T6_,T6_,T6_,T6_,T6_,T6_,T6_,T6_,T6_,T6_,T6_,T6_,T6_,F6_,T6_,T6_,T6_,T6_,F6_,F6_,F6_,F6_,F6_,F6_,F6_] rfl rfl (any_of HT_.out (by kernel_rfl)) (fun _ _ _ h => h) (Or.inl ⟨by rfl, ?_⟩) ?_ ?_
             rotate_left
             ·intro w'
              go_simp
              with_reducible rfl
             rotate_left
             ·simp only [Act.put, List.setIfInBounds_toArray, List.set_cons_zero, List.set_cons_succ, i64_w, i32_w]
              rfl
             refine pure_ (i := 40) (N := some 64) (v := ?_) (a' := ?_) #[T6_,T6_,T6_,T6_,T6_,T6_,T6_,T6_,T6_,T6_,T6_,T6_,T6_,T6_,T6_,T6_,T6_,T6_,T6_,T6_,T6_,T6_,T6_,T6_,T6_,T6_,T6_,T6_,T6_,T6_,T6_,T6_,T6_,F6_,T6_,T6_,T6_,T6_,F6_,F6_,T6_,F6_,F6_,F6_,F6_] rfl rfl (any_of HT_.out (by kernel_rfl)) (fun _ _ _ h => h) (Or.inl ⟨by rfl, ?_⟩) ?_ ?_
             rotate_left
             ·intro w'
              go_simp
              with_reducible rfl
             rotate_left
             ·simp only [Act.put, List.setIfInBounds_toArray, List.set_cons_zero, List.set_cons_succ, i64_w, i32_w]
              rfl
             refine take_ (i := 33) (N := some 57) (v := ?_) (a' := ?_) #[T6_,T6_,T6_,T6_,T6_,T6_,T6_,T6_,T6_,T6_,T6_,T6_,T6_,T6_,T6_,T6_,T6_,T6_,T6_,T6_,T6_,T6_,T6_,T6_,T6_,T6_,T6_,T6_,T6_,T6_,T6_,T6_,T6_,T6_,T6_,T6_,T6_,T6_,F6_,F6_,T6_,F6_,F6_,F6_,F6_] rfl rfl (take_ofW HT_.out HW_.out (by kernel_rfl)) (fun _ _ _ h => h) (Or.inl ⟨by rfl, ?_⟩) hHeld ?_ ?_
             rotate_left
             ·rintro w' ⟨s0, s1, s2⟩
              go_simp
              with_reducible rfl
             rotate_left
             ·simp only [Act.put, List.setIfInBounds_toArray, List.set_cons_zero, List.set_cons_succ, i64_w, i32_w]
              rfl
             refine take_ (i := 38) (N := some 62) (v := ?_) (a' := ?_) #[T6_,T6_,T6_,T6_,T6_,T6_,T6_,T6_,T6_,T6_,T6_,T6_,T6_,T6_,T6_,T6_,T6_,T6_,T6_,T6_,T6_,T6_,T6_,T6_,T6_,T6_,T6_,T6_,T6_,T6_,T6_,T6_,T6_,T6_,T6_,T6_,T6_,T6_,T6_,F6_,T6_,F6_,F6_,F6_,F6_] rfl rfl (take_ofW HT_.out HW_.out (by kernel_rfl)) (fun _ _ _ h => h) (Or.inl ⟨by rfl, ?_⟩) hHeld ?_ ?_
             rotate_left
             ·rintro w' ⟨s0, s1, s2⟩
              go_simp
              with_reducible rfl
             rotate_left
             ·simp only [Act.put, List.setIfInBounds_toArray, List.set_cons_zero, List.set_cons_succ, i64_w, i32_w]
              rfl
             refine pure_ (i := 39) (N := some 63) (v := ?_) (a' := ?_) #[T6_,T6_,T6_,T6_,T6_,T6_,T6_,T6_,T6_,T6_,T6_,T6_,T6_,T6_,T6_,T6_,T6_,T6_,T6_,T6_,T6_,T6_,T6_,T6_,T6_,T6_,T6_,T6_,T6_,T6_,T6_,T6_,T6_,T6_,T6_,T6_,T6_,T6_,T6_,T6_,T6_,F6_,F6_,F6_,F6_] rfl rfl (any_of HT_.out (by kernel_rfl)) (fun _ _ _ h => h) (Or.inl ⟨by rfl, ?_⟩) ?_ ?_
             rotate_left
             ·intro w'
              go_simp
              with_reducible rfl
             rotate_left
             ·simp only [Act.put, List.setIfInBounds_toArray, List.set_cons_zero, List.set_cons_succ, i64_w, i32_w]
              rfl
             refine pure_ (i := 41) (N := some 65) (v := ?_) (a' := ?_) #[T6_,T6_,T6_,T6_,T6_,T6_,T6_,T6_,T6_,T6_,T6_,T6_,T6_,T6_,T6_,T6_,T6_,T6_,T6_,T6_,T6_,T6_,T6_,T6_,T6_,T6_,T6_,T6_,T6_,T6_,T6_,T6_,T6_,T6_,T6_,T6_,T6_,T6_,T6_,T6_,T6_,T6_,F6_,F6_,F6_] rfl rfl (any_of HT_.out (by kernel_rfl)) (fun _ _ _ h => h) (Or.inl ⟨by rfl, ?_⟩) ?_ ?_
             rotate_left
             ·intro w'
              go_simp
              with_reducible rfl
             rotate_left
             ·simp only [Act.put, List.setIfInBounds_toArray, List.set_cons_zero, List.set_cons_succ, i64_w, i32_w]
              rfl
             refine pure_ (i := 42) (N := some 66) (v := ?_) (a' := ?_) #[T6_,T6_,T6_,T6_,T6_,T6_,T6_,T6_,T6_,T6_,T6_,T6_,T6_,T6_,T6_,T6_,T6_,T6_,T6_,T6_,T6_,T6_,T6_,T6_,T6_,T6_,T6_,T6_,T6_,T6_,T6_,T6_,T6_,T6_,T6_,T6_,T6_,T6_,T6_,T6_,T6_,T6_,T6_,F6_,F6_] rfl rfl (any_of HT_.out (by kernel_rfl)) (fun _ _ _ h => h) (Or.inl ⟨by rfl, ?_⟩) ?_ ?_
             rotate_left
             ·intro w'
              go_simp
              with_reducible rfl
             rotate_left
             ·simp only [Act.put, List.setIfInBounds_toArray, List.set_cons_zero, List.set_cons_succ, i64_w, i32_w]
              rfl
             refine pure_ (i := 43) (N := some 67) (v := ?_) (a' := ?_) #[T6_,T6_,T6_,T6_,T6_,T6_,T6_,T6_,T6_,T6_,T6_,T6_,T6_,T6_,T6_,T6_,T6_,T6_,T6_,T6_,T6_,T6_,T6_,T6_,T6_,T6_,T6_,T6_,T6_,T6_,T6_,T6_,T6_,T6_,T6_,T6_,T6_,T6_,T6_,T6_,T6_,T6_,T6_,T6_,F6_] rfl rfl (any_of HT_.out (by kernel_rfl)) (fun _ _ _ h => h) (Or.inl ⟨by rfl, ?_⟩) ?_ ?_
             rotate_left
             ·intro w'
              go_simp
              with_reducible rfl
             rotate_left
             ·simp only [Act.put, List.setIfInBounds_toArray, List.set_cons_zero, List.set_cons_succ, i64_w, i32_w]
              rfl
             refine pure_ (i := 44) (N := some 68) (v := ?_) (a' := ?_) #[T6_,T6_,T6_,T6_,T6_,T6_,T6_,T6_,T6_,T6_,T6_,T6_,T6_,T6_,T6_,T6_,T6_,T6_,T6_,T6_,T6_,T6_,T6_,T6_,T6_,T6_,T6_,T6_,T6_,T6_,T6_,T6_,T6_,T6_,T6_,T6_,T6_,T6_,T6_,T6_,T6_,T6_,T6_,T6_,T6_] rfl rfl (any_of HT_.out (by kernel_rfl)) (fun _ _ _ h => h) (Or.inl ⟨by rfl, ?_⟩) ?_ ?_
             rotate_left
             ·intro w'
              go_simp
              with_reducible rfl
             rotate_left
             ·simp only [Act.put, List.setIfInBounds_toArray, List.set_cons_zero, List.set_cons_succ, i64_w, i32_w]
              rfl
             refine done_ (done_of HT_.out (by kernel_rfl)) ?_
             try go_wp2
             (try simp only [← hji16])
             go_meet
             case rel => exact ⟨_, (((rd l0 a1) != (wrap64 ((wrap64 (Int.tdiv (wrap64 (a3 - (rd l0 (ji16)))) a2)) + 1)))), (by first | rfl | (simp; done) | (simp only [← hji16] <;> (first | rfl | simp)) | (simp [*]; done)), (by first | exact H' | exact ⟨by rw [hji16]; exact H'.out⟩ | exact ⟨by rw [← hji16]; exact H'.out⟩), ⟨by first | omega | exact Nat.le_refl _⟩, ⟨HBu HB.out⟩⟩
           ·rw [if_neg c22] at H
            exact absurd H (by simp)
          ·rw [if_neg c21] at H
           exact absurd H (by simp)
        ·rw [if_neg c18] at H
         exact absurd H (by simp)
       ·rw [if_neg c17] at H
        exact absurd H (by simp)
  ·replace c7 := Bool.eq_false_iff.mpr c7
   subst c7
   have H1 : (impl_foldPairs.j0 k l0 a1 a2 a3 (wrap64 ((l0.length : Int) - 1)) true) = some (r1, r2, r3) := by rw [if_neg (show ¬ (false = true) by decide)] at H; exact H
   clear H
   have H := H1
   clear H1
   have H' := Aside0.mk H
   clear H
   try go_wp2
   replace HB := Aside0.mk (below_drew1 HB.out)
   refine start_ (n := 45) (S := fun w' => True) (ds := []) #[F6_,F6_,F6_,F6_,F6_,F6_,F6_,F6_,F6_,F6_,F6_,F6_,F6_,F6_,F6_,F6_,F6_,F6_,F6_,F6_,F6_,F6_,F6_,F6_,F6_,F6_,F6_,F6_,F6_,F6_,F6_,F6_,F6_,F6_,F6_,F6_,F6_,F6_,F6_,F6_,F6_,F6_,F6_,F6_,F6_] (by kernel_rfl) rfl rfl trivial (fun hHeld => ?_); refine with_tabW impl_foldPairs.tab2 impl_foldPairs.bits2 (fun HT_ HW_ => ?_)
   generalize w.drew = w25 at HB hHeld ⊢
   refine pure_ (i := 0) (N := some 24) (v := ?_) (a' := ?_) #[T6_,F6_,F6_,F6_,F6_,F6_,F6_,F6_,F6_,F6_,F6_,F6_,F6_,F6_,F6_,F6_,F6_,F6_,F6_,F6_,F6_,F6_,F6_,F6_,F6_,F6_,F6_,F6_,F6_,F6_,F6_,F6_,F6_,F6_,F6_,F6_,F6_,F6_,F6_,F6_,F6_,F6_,F6_,F6_,F6_] rfl rfl (any_of HT_.out (by kernel_rfl)) (fun _ _ _ h => h) (Or.inl ⟨by rfl, ?_⟩) ?_ ?_
   rotate_left
   ·intro w'
    go_simp
    with_reducible rfl
   rotate_left
   ·simp only [Act.put, List.setIfInBounds_toArray, List.set_cons_zero, List.set_cons_succ, i64_w, i32_w]
    rfl
   refine pure_ (i := 1) (N := some 25) (v := ?_) (a' := ?_) #[T6_,T6_,F6_,F6_,F6_,F6_,F6_,F6_,F6_,F6_,F6_,F6_,F6_,F6_,F6_,F6_,F6_,F6_,F6_,F6_,F6_,F6_,F6_,F6_,F6_,F6_,F6_,F6_,F6_,F6_,F6_,F6_,F6_,F6_,F6_,F6_,F6_,F6_,F6_,F6_,F6_,F6_,F6_,F6_,F6_] rfl rfl (any_of HT_.out (by kernel_rfl)) (fun _ _ _ h => h) (Or.inl ⟨by rfl, ?_⟩) ?_ ?_
   rotate_left
   ·intro w'
    go_simp
    with_reducible rfl
   rotate_left
   ·simp only [Act.put, List.setIfInBounds_toArray, List.set_cons_zero, List.set_cons_succ, i64_w, i32_w]
    rfl
   refine one_ (i := 2) (N := some 26) #[T6_,T6_,T6_,F6_,F6_,F6_,F6_,F6_,F6_,F6_,F6_,F6_,F6_,F6_,F6_,F6_,F6_,F6_,F6_,F6_,F6_,F6_,F6_,F6_,F6_,F6_,F6_,F6_,F6_,F6_,F6_,F6_,F6_,F6_,F6_,F6_,F6_,F6_,F6_,F6_,F6_,F6_,F6_,F6_,F6_] rfl rfl (one_of HT_.out (by kernel_rfl)) (by decide) (fun K hK => ?_)
   refine goes_ Try.func78 (by kernel_rfl) rfl #[.slice A0 l0.length c0, .int .i64 a1] (by rfl) rfl rfl (by (try simp only [List.map_toArray, List.map_cons, List.map_nil]); first | done | rfl | (simp only [List.length_drop, List.length_take]; rfl)) ?_
   with_reducible refine (impl_isAxis.calls _ _ l0 a1 false _ ?side1 ?side2 A6.out).mono ?_
   (case side1 => exact (Cu ((Kd.C_below HR0.out HB.out))))
   (case side2 => exact HC0.out)
   rintro e w' ⟨rfl, ⟨nd, rfl⟩⟩
   refine ⟨_, rfl, ?_⟩
   refine hK.out _ _ trivial (fun hHeld => ?_)
   clear hK K
   refine norm_ (a' := ?_) ?_ ?_
   rotate_left
   ·show Act.put _ (some 26) _ = _
    simp only [Act.put, List.setIfInBounds_toArray, List.set_cons_zero, List.set_cons_succ, i64_w, i32_w]
    rfl
   refine pure_ (i := 3) (N := some 27) (v := ?_) (a' := ?_) #[T6_,T6_,T6_,T6_,F6_,F6_,F6_,F6_,F6_,F6_,F6_,F6_,F6_,F6_,F6_,F6_,F6_,F6_,F6_,F6_,F6_,F6_,F6_,F6_,F6_,F6_,F6_,F6_,F6_,F6_,F6_,F6_,F6_,F6_,F6_,F6_,F6_,F6_,F6_,F6_,F6_,F6_,F6_,F6_,F6_] rfl rfl (any_of HT_.out (by kernel_rfl)) (fun _ _ _ h => h) (Or.inl ⟨by rfl, ?_⟩) ?_ ?_
   rotate_left
   ·intro w'
    go_simp
    with_reducible rfl
   rotate_left
   ·simp only [Act.put, List.setIfInBounds_toArray, List.set_cons_zero, List.set_cons_succ, i64_w, i32_w]
    rfl
   refine pure_ (i := 4) (N := some 28) (v := ?_) (a' := ?_) #[T6_,T6_,T6_,T6_,T6_,F6_,F6_,F6_,F6_,F6_,F6_,F6_,F6_,F6_,F6_,F6_,F6_,F6_,F6_,F6_,F6_,F6_,F6_,F6_,F6_,F6_,F6_,F6_,F6_,F6_,F6_,F6_,F6_,F6_,F6_,F6_,F6_,F6_,F6_,F6_,F6_,F6_,F6_,F6_,F6_] rfl rfl (any_of HT_.out (by kernel_rfl)) (fun _ _ _ h => h) (Or.inl ⟨by rfl, ?_⟩) ?_ ?_
   rotate_left
   ·intro w'
    go_simp
    with_reducible rfl
   rotate_left
   ·simp only [Act.put, List.setIfInBounds_toArray, List.set_cons_zero, List.set_cons_succ, i64_w, i32_w]
    rfl
   refine pure_ (i := 5) (N := some 29) (v := undef) (a' := ?_) #[T6_,T6_,T6_,T6_,T6_,T6_,F6_,F6_,F6_,F6_,F6_,F6_,F6_,F6_,F6_,F6_,F6_,F6_,F6_,F6_,F6_,F6_,F6_,F6_,F6_,F6_,F6_,F6_,F6_,F6_,F6_,F6_,F6_,F6_,F6_,F6_,F6_,F6_,F6_,F6_,F6_,F6_,F6_,F6_,F6_] rfl rfl (any_of HT_.out (by kernel_rfl)) (fun _ _ _ h => h) (Or.inr ⟨by rfl, rfl⟩) ?_ ?_
   rotate_left
   ·simp only [Act.put, List.setIfInBounds_toArray, List.set_cons_zero, List.set_cons_succ, i64_w, i32_w]
    rfl
   refine pure_ (i := 6) (N := some 30) (v := undef) (a' := ?_) #[T6_,T6_,T6_,T6_,T6_,T6_,T6_,F6_,F6_,F6_,F6_,F6_,F6_,F6_,F6_,F6_,F6_,F6_,F6_,F6_,F6_,F6_,F6_,F6_,F6_,F6_,F6_,F6_,F6_,F6_,F6_,F6_,F6_,F6_,F6_,F6_,F6_,F6_,F6_,F6_,F6_,F6_,F6_,F6_,F6_] rfl rfl (any_of HT_.out (by kernel_rfl)) (fun _ _ _ h => h) (Or.inr ⟨by rfl, rfl⟩) ?_ ?_
   rotate_left
   ·simp only [Act.put, List.setIfInBounds_toArray, List.set_cons_zero, List.set_cons_succ, i64_w, i32_w]
    rfl
   refine pure_ (i := 7) (N := some 31) (v := undef) (a' := ?_) #[T6_,T6_,T6_,T6_,T6_,T6_,T6_,T6_,F6_,F6_,F6_,F6_,F6_,F6_,F6_,F6_,F6_,F6_,F6_,F6_,F6_,F6_,F6_,F6_,F6_,F6_,F6_,F6_,F6_,F6_,F6_,F6_,F6_,F6_,F6_,F6_,F6_,F6_,F6_,F6_,F6_,F6_,F6_,F6_,F6_] rfl rfl (any_of HT_.out (by kernel_rfl)) (fun _ _ _ h => h) (Or.inr ⟨by rfl, rfl⟩) ?_ ?_
   rotate_left
   ·simp only [Act.put, List.setIfInBounds_toArray, List.set_cons_zero, List.set_cons_succ, i64_w, i32_w]
    rfl
   refine pure_ (i := 8) (N := some 32) (v := ?_) (a' := ?_) #[T6_,T6_,T6_,T6_,T6_,T6_,T6_,T6_,T6_,F6_,F6_,F6_,F6_,F6_,F6_,F6_,F6_,F6_,F6_,F6_,F6_,F6_,F6_,F6_,F6_,F6_,F6_,F6_,F6_,F6_,F6_,F6_,F6_,F6_,F6_,F6_,F6_,F6_,F6_,F6_,F6_,F6_,F6_,F6_,F6_] rfl rfl (any_of HT_.out (by kernel_rfl)) (fun _ _ _ h => h) (Or.inl ⟨by rfl, ?_⟩) ?_ ?_
   rotate_left
   ·intro w'
    go_simp
    with_reducible rfl
   rotate_left
   ·simp only [Act.put, List.setIfInBounds_toArray, List.set_cons_zero, List.set_cons_succ, i64_w, i32_w]
    rfl
   refine pure_ (i := 9) (N := some 33) (v := ?_) (a' := ?_) #[T6_,T6_,T6_,T6_,T6_,T6_,T6_,T6_,T6_,T6_,F6_,F6_,F6_,F6_,F6_,F6_,F6_,F6_,F6_,F6_,F6_,F6_,F6_,F6_,F6_,F6_,F6_,F6_,F6_,F6_,F6_,F6_,F6_,F6_,F6_,F6_,F6_,F6_,F6_,F6_,F6_,F6_,F6_,F6_,F6_] rfl rfl (any_of HT_.out (by kernel_rfl)) (fun _ _ _ h => h) (Or.inl ⟨by rfl, ?_⟩) ?_ ?_
   rotate_left
   ·intro w'
    go_simp
    with_reducible rfl
   rotate_left
   ·simp only [Act.put, List.setIfInBounds_toArray, List.set_cons_zero, List.set_cons_succ, i64_w, i32_w]
    rfl
   refine pure_ (i := 10) (N := some 34) (v := undef) (a' := ?_) #[T6_,T6_,T6_,T6_,T6_,T6_,T6_,T6_,T6_,T6_,T6_,F6_,F6_,F6_,F6_,F6_,F6_,F6_,F6_,F6_,F6_,F6_,F6_,F6_,F6_,F6_,F6_,F6_,F6_,F6_,F6_,F6_,F6_,F6_,F6_,F6_,F6_,F6_,F6_,F6_,F6_,F6_,F6_,F6_,F6_] rfl rfl (any_of HT_.out (by kernel_rfl)) (fun _ _ _ h => h) (Or.inr ⟨by rfl, rfl⟩) ?_ ?_
   rotate_left
   ·simp only [Act.put, List.setIfInBounds_toArray, List.set_cons_zero, List.set_cons_succ, i64_w, i32_w]
    rfl
   refine pure_ (i := 11) (N := some 35) (v := undef) (a' := ?_) #[T6_,T6_,T6_,T6_,T6_,T6_,T6_,T6_,T6_,T6_,T6_,T6_,F6_,F6_,F6_,F6_,F6_,F6_,F6_,F6_,F6_,F6_,F6_,F6_,F6_,F6_,F6_,F6_,F6_,F6_,F6_,F6_,F6_,F6_,F6_,F6_,F6_,F6_,F6_,F6_,F6_,F6_,F6_,F6_,F6_] rfl rfl (any_of HT_.out (by kernel_rfl)) (fun _ _ _ h => h) (Or.inr ⟨by rfl, rfl⟩) ?_ ?_
   rotate_left
   ·simp only [Act.put, List.setIfInBounds_toArray, List.set_cons_zero, List.set_cons_succ, i64_w, i32_w]
    rfl
   refine pure_ (i := 12) (N := some 36) (v := ?_) (a' := ?_) #[T6_,T6_,T6_,T6_,T6_,T6_,T6_,T6_,T6_,T6_,T6_,T6_,T6_,F6_,F6_,F6_,F6_,F6_,F6_,F6_,F6_,F6_,F6_,F6_,F6_,F6_,F6_,F6_,F6_,F6_,F6_,F6_,F6_,F6_,F6_,F6_,F6_,F6_,F6_,F6_,F6_,F6_,F6_,F6_,F6_] rfl rfl (any_of HT_.out (by kernel_rfl)) (fun _ _ _ h => h) (Or.inl ⟨by rfl, ?_⟩) ?_ ?_
   rotate_left
   ·intro w'
    go_simp
    with_reducible rfl
   rotate_left
   ·simp only [Act.put, List.setIfInBounds_toArray, List.set_cons_zero, List.set_cons_succ, i64_w, i32_w]
    rfl
   refine pure_ (i := 13) (N := some 37) (v := ?_) (a' := ?_) #[T6_,T6_,T6_,T6_,T6_,T6_,T6_,T6_,T6_,T6_,T6_,T6_,T6_,T6_,F6_,F6_,F6_,F6_,F6_,F6_,F6_,F6_,F6_,F6_,F6_,F6_,F6_,F6_,F6_,F6_,F6_,F6_,F6_,F6_,F6_,F6_,F6_,F6_,F6_,F6_,F6_,F6_,F6_,F6_,F6_] rfl rfl (any_of HT_.out (by kernel_rfl)) (fun _ _ _ h => h) (Or.inl ⟨by rfl, ?_⟩) ?_ ?_
   rotate_left
   ·intro w'
    go_simp
    with_reducible rfl
   rotate_left
   ·simp only [Act.put, List.setIfInBounds_toArray, List.set_cons_zero, List.set_cons_succ, i64_w, i32_w]
    rfl
   refine pure_ (i := 14) (N := some 38) (v := undef) (a' := ?_) #[T6_,T6_,T6_,T6_,T6_,T6_,T6_,T6_,T6_,T6_,T6_,T6_,T6_,T6_,T6_,F6_,F6_,F6_,F6_,F6_,F6_,F6_,F6_,F6_,F6_,F6_,F6_,F6_,F6_,F6_,F6_,F6_,F6_,F6_,F6_,F6_,F6_,F6_,F6_,F6_,F6_,F6_,F6_,F6_,F6_] rfl rfl (any_of HT_.out (by kernel_rfl)) (fun _ _ _ h => h) (Or.inr ⟨by rfl, rfl⟩) ?_ ?_
   rotate_left
   ·simp only [Act.put, List.setIfInBounds_toArray, List.set_cons_zero, List.set_cons_succ, i64_w, i32_w]
    rfl
   refine pure_ (i := 15) (N := some 39) (v := undef) (a' := ?_) #[T6_,T6_,T6_,T6_,T6_,T6_,T6_,T6_,T6_,T6_,T6_,T6_,T6_,T6_,T6_,T6_,F6_,F6_,F6_,F6_,F6_,F6_,F6_,F6_,F6_,F6_,F6_,F6_,F6_,F6_,F6_,F6_,F6_,F6_,F6_,F6_,F6_,F6_,F6_,F6_,F6_,F6_,F6_,F6_,F6_] rfl rfl (any_of HT_.out (by kernel_rfl)) (fun _ _ _ h => h) (Or.inr ⟨by rfl, rfl⟩) ?_ ?_
   rotate_left
   ·simp only [Act.put, List.setIfInBounds_toArray, List.set_cons_zero, List.set_cons_succ, i64_w, i32_w]
    rfl
   refine pure_ (i := 16) (N := some 40) (v := ?_) (a' := ?_) #[T6_,T6_,T6_,T6_,T6_,T6_,T6_,T6_,T6_,T6_,T6_,T6_,T6_,T6_,T6_,T6_,T6_,F6_,F6_,F6_,F6_,F6_,F6_,F6_,F6_,F6_,F6_,F6_,F6_,F6_,F6_,F6_,F6_,F6_,F6_,F6_,F6_,F6_,F6_,F6_,F6_,F6_,F6_,F6_,F6_] rfl rfl (any_of HT_.out (by kernel_rfl)) (fun _ _ _ h => h) (Or.inl ⟨by rfl, ?_⟩) ?_ ?_
   rotate_left
   ·intro w'
    go_simp
    with_reducible rfl
   rotate_left
   ·simp only [Act.put, List.setIfInBounds_toArray, List.set_cons_zero, List.set_cons_succ, i64_w, i32_w]
    rfl
   refine pure_ (i := 17) (N := some 41) (v := ?_) (a' := ?_) #[T6_,T6_,T6_,T6_,T6_,T6_,T6_,T6_,T6_,T6_,T6_,T6_,T6_,T6_,T6_,T6_,T6_,T6_,F6_,F6_,F6_,F6_,F6_,F6_,F6_,F6_,F6_,F6_,F6_,F6_,F6_,F6_,F6_,F6_,F6_,F6_,F6_,F6_,F6_,F6_,F6_,F6_,F6_,F6_,F6_] rfl rfl (any_of HT_.out (by kernel_rfl)) (fun _ _ _ h => h) (Or.inl ⟨by rfl, ?_⟩) ?_ ?_
   rotate_left
   ·intro w'
    go_simp
    with_reducible rfl
   rotate_left
   ·simp only [Act.put, List.setIfInBounds_toArray, List.set_cons_zero, List.set_cons_succ, i64_w, i32_w]
    rfl
   refine pure_ (i := 18) (N := some 42) (v := undef) (a' := ?_) #[T6_,T6_,T6_,T6_,T6_,T6_,T6_,T6_,T6_,T6_,T6_,T6_,T6_,T6_,T6_,T6_,T6_,T6_,T6_,F6_,F6_,F6_,F6_,F6_,F6_,F6_,F6_,F6_,F6_,F6_,F6_,F6_,F6_,F6_,F6_,F6_,F6_,F6_,F6_,F6_,F6_,F6_,F6_,F6_,F6_] rfl rfl (any_of HT_.out (by kernel_rfl)) (fun _ _ _ h => h) (Or.inr ⟨by rfl, rfl⟩) ?_ ?_
   rotate_left
   ·simp only [Act.put, List.setIfInBounds_toArray, List.set_cons_zero, List.set_cons_succ, i64_w, i32_w]
    rfl
   refine pure_ (i := 19) (N := some 43) (v := undef) (a' := ?_) #[T6_,T6_,T6_,T6_,T6_,T6_,T6_,T6_,T6_,T6_,T6_,T6_,T6_,T6_,T6_,T6_,T6_,T6_,T6_,T6_,F6_,F6_,F6_,F6_,F6_,F6_,F6_,F6_,F6_,F6_,F6_,F6_,F6_,F6_,F6_,F6_,F6_,F6_,F6_,F6_,F6_,F6_,F6_,F6_,F6_] rfl rfl (any_of HT_.out (by kernel_rfl)) (fun _ _ _ h => h) (Or.inr ⟨by rfl, rfl⟩) ?_ ?_
   rotate_left
   ·simp only [Act.put, List.setIfInBounds_toArray, List.set_cons_zero, List.set_cons_succ, i64_w, i32_w]
    rfl
   refine pure_ (i := 20) (N := some 44) (v := ?_) (a' := ?_) #[T6_,T6_,T6_,T6_,T6_,T6_,T6_,T6_,T6_,T6_,T6_,T6_,T6_,T6_,T6_,T6_,T6_,T6_,T6_,T6_,T6_,F6_,F6_,F6_,F6_,F6_,F6_,F6_,F6_,F6_,F6_,F6_,F6_,F6_,F6_,F6_,F6_,F6_,F6_,F6_,F6_,F6_,F6_,F6_,F6_] rfl rfl (any_of HT_.out (by kernel_rfl)) (fun _ _ _ h => h) (Or.inl ⟨by rfl, ?_⟩) ?_ ?_
   rotate_left
   ·intro w'
    go_simp
    with_reducible rfl
   rotate_left
   ·simp only [Act.put, List.setIfInBounds_toArray, List.set_cons_zero, List.set_cons_succ, i64_w, i32_w]
    rfl
   refine pure_ (i := 21) (N := some 45) (v := ?_) (a' := ?_) #[T6_,T6_,T6_,T6_,T6_,T6_,T6_,T6_,T6_,T6_,T6_,T6_,T6_,T6_,T6_,T6_,T6_,T6_,T6_,T6_,T6_,T6_,F6_,F6_,F6_,F6_,F6_,F6_,F6_,F6_,F6_,F6_,F6_,F6_,F6_,F6_,F6_,F6_,F6_,F6_,F6_,F6_,F6_,F6_,F6_] rfl rfl (any_of HT_.out (by kernel_rfl)) (fun _ _ _ h => h) (Or.inl ⟨by rfl, ?_⟩) ?_ ?_
   rotate_left
   ·intro w'
    go_simp
    with_reducible rfl
   rotate_left
   ·simp only [Act.put, List.setIfInBounds_toArray, List.set_cons_zero, List.set_cons_succ, i64_w, i32_w]
    rfl
   refine pure_ (i := 22) (N := some 46) (v := undef) (a' := ?_) #[T6_,T6_,T6_,T6_,T6_,T6_,T6_,T6_,T6_,T6_,T6_,T6_,T6_,T6_,T6_,T6_,T6_,T6_,T6_,T6_,T6_,T6_,T6_,F6_,F6_,F6_,F6_,F6_,F6_,F6_,F6_,F6_,F6_,F6_,F6_,F6_,F6_,F6_,F6_,F6_,F6_,F6_,F6_,F6_,F6_] rfl rfl (any_of HT_.out (by kernel_rfl)) (fun _ _ _ h => h) (Or.inr ⟨by rfl, rfl⟩) ?_ ?_
   rotate_left
   ·simp only [Act.put, List.setIfInBounds_toArray, List.set_cons_zero, List.set_cons_succ, i64_w, i32_w]
    rfl
   refine pure_ (i := 23) (N := some 47) (v := undef) (a' := ?_) #[T6_,T6_,T6_,T6_,T6_,T6_,T6_,T6_,T6_,T6_,T6_,T6_,T6_,T6_,T6_,T6_,T6_,T6_,T6_,T6_,T6_,T6_,T6_,T6_,F6_,F6_,F6_,F6_,F6_,F6_,F6_,F6_,F6_,F6_,F6_,F6_,F6_,F6_,F6_,F6_,F6_,F6_,F6_,F6_,F6_] rfl rfl (any_of HT_.out (by kernel_rfl)) (fun _ _ _ h => h) (Or.inr ⟨by rfl, rfl⟩) ?_ ?_
   rotate_left
   ·simp only [Act.put, List.setIfInBounds_toArray, List.set_cons_zero, List.set_cons_succ, i64_w, i32_w]
    rfl
   refine pure_ (i := 24) (N := some 48) (v := undef) (a' := ?_) #[T6_,T6_,T6_,T6_,T6_,T6_,T6_,T6_,T6_,T6_,T6_,T6_,T6_,T6_,T6_,T6_,T6_,T6_,T6_,T6_,T6_,T6_,T6_,T6_,T6_,F6_,F6_,F6_,F6_,F6_,F6_,F6_,F6_,F6_,F6_,F6_,F6_,F6_,F6_,F6_,F6_,F6_,F6_,F6_,F6_] rfl rfl (any_of HT_.out (by kernel_rfl)) (fun _ _ _ h => h) (Or.inr ⟨by rfl, rfl⟩) ?_ ?_
   rotate_left
   ·simp only [Act.put, List.setIfInBounds_toArray, List.set_cons_zero, List.set_cons_succ, i64_w, i32_w]
    rfl
   refine pure_ (i := 25) (N := some 49) (v := undef) (a' := ?_) #[T6_,T6_,T6_,T6_,T6_,T6_,T6_,T6_,T6_,T6_,T6_,T6_,T6_,T6_,T6_,T6_,T6_,T6_,T6_,T6_,T6_,T6_,T6_,T6_,T6_,T6_,F6_,F6_,F6_,F6_,F6_,F6_,F6_,F6_,F6_,F6_,F6_,F6_,F6_,F6_,F6_,F6_,F6_,F6_,F6_] rfl rfl (any_of HT_.out (by kernel_rfl)) (fun _ _ _ h => h) (Or.inr ⟨by rfl, rfl⟩) ?_ ?_
   rotate_left
   ·simp only [Act.put, List.setIfInBounds_toArray, List.set_cons_zero, List.set_cons_succ, i64_w, i32_w]
    rfl
   refine pure_ (i := 26) (N := some 50) (v := undef) (a' := ?_) #[T6_,T6_,T6_,T6_,T6_,T6_,T6_,T6_,T6_,T6_,T6_,T6_,T6_,T6_,T6_,T6_,T6_,T6_,T6_,T6_,T6_,T6_,T6_,T6_,T6_,T6_,T6_,F6_,F6_,F6_,F6_,F6_,F6_,F6_,F6_,F6_,F6_,F6_,F6_,F6_,F6_,F6_,F6_,F6_,F6_] rfl rfl (any_of HT_.out (by kernel_rfl)) (fun _ _ _ h => h) (Or.inr ⟨by rfl, rfl⟩) ?_ ?_
   rotate_left
   ·simp only [Act.put, List.setIfInBounds_toArray, List.set_cons_zero, List.set_cons_succ, i64_w, i32_w]
    rfl
   refine pure_ (i := 27) (N := some 51) (v := undef) (a' := ?_) #[T6_,T6_,T6_,T6_,T6_,T6_,T6_,T6_,T6_,T6_,T6_,T6_,T6_,T6_,T6_,T6_,T6_,T6_,T6_,T6_,T6_,T6_,T6_,T6_,T6_,T6_,T6_,T6_,F6_,F6_,F6_,F6_,F6_,F6_,F6_,F6_,F6_,F6_,F6_,F6_,F6_,F6_,F6_,F6_,F6_] rfl rfl (any_of HT_.out (by kernel_rfl)) (fun _ _ _ h => h) (Or.inr ⟨by rfl, rfl⟩) ?_ ?_
   rotate_left
   ·simp only [Act.put, List.setIfInBounds_toArray, List.set_cons_zero, List.set_cons_succ, i64_w, i32_w]
    rfl
   refine pure_ (i := 28) (N := some 52) (v := ?_) (a' := ?_) #[T6_,T6_,T6_,T6_,T6_,T6_,T6_,T6_,T6_,T6_,T6_,T6_,T6_,T6_,T6_,T6_,T6_,T6_,T6_,T6_,T6_,T6_,T6_,T6_,T6_,T6_,T6_,T6_,T6_,F6_,F6_,F6_,F6_,F6_,F6_,F6_,F6_,F6_,F6_,F6_,F6_,F6_,F6_,F6_,F6_] rfl rfl (any_of HT_.out (by kernel_rfl)) (fun _ _ _ h => h) (Or.inl ⟨by rfl, ?_⟩) ?_ ?_
   rotate_left
   ·intro w'
    go_simp
    with_reducible rfl
   rotate_left
   ·simp only [Act.put, List.setIfInBounds_toArray, List.set_cons_zero, List.set_cons_succ, i64_w, i32_w]
    rfl
   refine pure_ (i := 29) (N := some 53) (v := ?_) (a' := ?_) #[T6_,T6_,T6_,T6_,T6_,T6_,T6_,T6_,T6_,T6_,T6_,T6_,T6_,T6_,T6_,T6_,T6_,T6_,T6_,T6_,T6_,T6_,T6_,T6_,T6_,T6_,T6_,T6_,T6_,T6_,F6_,F6_,F6_,F6_,F6_,F6_,F6_,F6_,F6_,F6_,F6_,F6_,F6_,F6_,F6_] rfl rfl (any_of HT_.out (by kernel_rfl)) (fun _ _ _ h => h) (Or.inl ⟨by rfl, ?_⟩) ?_ ?_
   rotate_left
   ·intro w'
    go_simp
    with_reducible rfl
   rotate_left
   ·simp only [Act.put, List.setIfInBounds_toArray, List.set_cons_zero, List.set_cons_succ, i64_w, i32_w]
    rfl
   refine pure_ (i := 30) (N := some 54) (v := undef) (a' := ?_) #[T6_,T6_,T6_,T6_,T6_,T6_,T6_,T6_,T6_,T6_,T6_,T6_,T6_,T6_,T6_,T6_,T6_,T6_,T6_,T6_,T6_,T6_,T6_,T6_,T6_,T6_,T6_,T6_,T6_,T6_,T6_,F6_,F6_,F6_,F6_,F6_,F6_,F6_,F6_,F6_,F6_,F6_,F6_,F6_,F6_] rfl rfl (any_of HT_.out (by kernel_rfl)) (fun _ _ _ h => h) (Or.inr ⟨by rfl, rfl⟩) ?_ ?_
   rotate_left
   ·simp only [Act.put, List.setIfInBounds_toArray, List.set_cons_zero, List.set_cons_succ, i64_w, i32_w]
    rfl
   refine pure_ (i := 31) (N := some 55) (v := undef) (a' := ?_) #[T6_,T6_,T6_,T6_,T6_,T6_,T6_,T6_,T6_,T6_,T6_,T6_,T6_,T6_,T6_,T6_,T6_,T6_,T6_,T6_,T6_,T6_,T6_,T6_,T6_,T6_,T6_,T6_,T6_,T6_,T6_,T6_,F6_,F6_,F6_,F6_,F6_,F6_,F6_,F6_,F6_,F6_,F6_,F6_,F6_] rfl rfl (any_of HT_.out (by kernel_rfl)) (fun _ _ _ h => h) (Or.inr ⟨by rfl, rfl⟩) ?_ ?_
   rotate_left
   ·simp only [Act.put, List.setIfInBounds_toArray, List.set_cons_zero, List.set_cons_succ, i64_w, i32_w]
    rfl
   refine pure_ (i := 32) (N := some 56) (v := undef) (a' := ?_) #[T6_,T6_,T6_,T6_,T6_,T6_,T6_,T6_,T6_,T6_,T6_,T6_,T6_,T6_,T6_,T6_,T6_,T6_,T6_,T6_,T6_,T6_,T6_,T6_,T6_,T6_,T6_,T6_,T6_,T6_,T6_,T6_,T6_,F6_,F6_,F6_,F6_,F6_,F6_,F6_,F6_,F6_,F6_,F6_,F6_] rfl rfl (any_of HT_.out (by kernel_rfl)) (fun _ _ _ h => h) (Or.inr ⟨by rfl, rfl⟩) ?_ ?_
   rotate_left
   ·simp only [Act.put, List.setIfInBounds_toArray, List.set_cons_zero, List.set_cons_succ, i64_w, i32_w]
    rfl
   refine pure_ (i := 33) (N := some 57) (v := undef) (a' := ?_) #[T6_,T6_,T6_,T6_,T6_,T6_,T6_,T6_,T6_,T6_,T6_,T6_,T6_,T6_,T6_,T6_,T6_,T6_,T6_,T6_,T6_,T6_,T6_,T6_,T6_,T6_,T6_,T6_,T6_,T6_,T6_,T6_,T6_,T6_,F6_,F6_,F6_,F6_,F6_,F6_,F6_,F6_,F6_,F6_,F6_] rfl rfl (any_of HT_.out (by kernel_rfl)) (fun _ _ _ h => h) (Or.inr ⟨by rfl, rfl⟩) ?_ ?_
   rotate_left
   ·simp only [Act.put, List.setIfInBounds_toArray, List.set_cons_zero, List.set_cons_succ, i64_w, i32_w]
    rfl
   refine pure_ (i := 34) (N := some 58) (v := undef) (a' := ?_) #[T6_,T6_,T6_,T6_,T6_,T6_,T6_,T6_,T6_,T6_,T6_,T6_,T6_,T6_,T6_,T6_,T6_,T6_,T6_,T6_,T6_,T6_,T6_,T6_,T6_,T6_,T6_,T6_,T6_,T6_,T6_,T6_,T6_,T6_,T6_,F6_,F6_,F6_,F6_,F6_,F6_,F6_,F6_,F6_,F6_] rfl rfl (any_of HT_.out (by kernel_rfl)) (fun _ _ _ h => h) (Or.inr ⟨by rfl, rfl⟩) ?_ ?_
   rotate_left
   ·simp only [Act.put, List.setIfInBounds_toArray, List.set_cons_zero, List.set_cons_succ, i64_w, i32_w]
    rfl
   refine pure_ (i := 35) (N := some 59) (v := undef) (a' := ?_) #[T6_,T6_,T6_,T6_,T6_,T6_,T6_,T6_,T6_,T6_,T6_,T6_,T6_,T6_,T6_,T6_,T6_,T6_,T6_,T6_,T6_,T6_,T6_,T6_,T6_,T6_,T6_,T6_,T6_,T6_,T6_,T6_,T6_,T6_,T6_,T6_,F6_,F6_,F6_,F6_,F6_,F6_,F6_,F6_,F6_] rfl rfl (any_of HT_.out (by kernel_rfl)) (fun _ _ _ h => h) (Or.inr ⟨by rfl, rfl⟩) ?_ ?_
   rotate_left
   ·simp only [Act.put, List.setIfInBounds_toArray, List.set_cons_zero, List.set_cons_succ, i64_w, i32_w]
    rfl
   refine pure_ (i := 36) (N := some 60) (v := undef) (a' := ?_) #[T6_,T6_,T6_,T6_,T6_,T6_,T6_,T6_,T6_,T6_,T6_,T6_,T6_,T6_,T6_,T6_,T6_,T6_,T6_,T6_,T6_,T6_,T6_,T6_,T6_,T6_,T6_,T6_,T6_,T6_,T6_,T6_,T6_,T6_,T6_,T6_,T6_,F6_,F6_,F6_,F6_,F6_,F6_,F6_,F6_] rfl rfl (any_of HT_.out (by kernel_rfl)) (fun _ _ _ h => h) (Or.inr ⟨by rfl, rfl⟩) ?_ ?_
   rotate_left
   ·simp only [Act.put, List.setIfInBounds_toArray, List.set_cons_zero, List.set_cons_succ, i64_w, i32_w]
    rfl
   refine pure_ (i := 37) (N := some 61) (v := undef) (a' := ?_) #[T6_,T6_,T6_,T6_,T6_,T6_,T6_,T6_,T6_,T6_,T6_,T6_,T6_,T6_,T6_,T6_,T6_,T6_,T6_,T6_,T6_,T6_,T6_,T6_,T6_,T6_,T6_,T6_,T6_,T6_,T6_,T6_,T6_,T6_,T6_,T6_,T6_,T6_,F6_,F6_,F6_,F6_,F6_,F6_,F6_] rfl rfl (any_of HT_.out (by kernel_rfl)) (fun _ _ _ h => h) (Or.inr ⟨by rfl, rfl⟩) ?_ ?_
   rotate_left
   ·simp only [Act.put, List.setIfInBounds_toArray, List.set_cons_zero, List.set_cons_succ, i64_w, i32_w]
    rfl
   refine pure_ (i := 38) (N := some 62) (v := undef) (a' := ?_) #[T6_,T6_,T6_,T6_,T6_,T6_,T6_,T6_,T6_,T6_,T6_,T6_,T6_,T6_,T6_,T6_,T6_,T6_,T6_,T6_,T6_,T6_,T6_,T6_,T6_,T6_,T6_,T6_,T6_,T6_,T6_,T6_,T6_,T6_,T6_,T6_,T6_,T6_,T6_,F6_,F6_,F6_,F6_,F6_,F6_] rfl rfl (any_of HT_.out (by kernel_rfl)) (fun _ _ _ h => h) (Or.inr ⟨by rfl, rfl⟩) ?_ ?_
   rotate_left
   ·simp only [Act.put, List.setIfInBounds_toArray, List.set_cons_zero, List.set_cons_succ, i64_w, i32_w]
    rfl
   refine pure_ (i := 39) (N := some 63) (v := undef) (a' := ?_) #[T6_,T6_,T6_,T6_,T6_,T6_,T6_,T6_,T6_,T6_,T6_,T6_,T6_,T6_,T6_,T6_,T6_,T6_,T6_,T6_,T6_,T6_,T6_,T6_,T6_,T6_,T6_,T6_,T6_,T6_,T6_,T6_,T6_,T6_,T6_,T6_,T6_,T6_,T6_,T6_,F6_,F6_,F6_,F6_,F6_] rfl rfl (any_of HT_.out (by kernel_rfl)) (fun _ _ _ h => h) (Or.inr ⟨by rfl, rfl⟩) ?_ ?_
   rotate_left
   ·simp only [Act.put, List.setIfInBounds_toArray, List.set_cons_zero, List.set_cons_succ, i64_w, i32_w]
    rfl
   refine pure_ (i := 40) (N := some 64) (v := undef) (a' := ?_) #[T6_,T6_,T6_,T6_,T6_,T6_,T6_,T6_,T6_,T6_,T6_,T6_,T6_,T6_,T6_,T6_,T6_,T6_,T6_,T6_,T6_,T6_,T6_,T6_,T6_,T6_,T6_,T6_,T6_,T6_,T6_,T6_,T6_,T6_,T6_,T6_,T6_,T6_,T6_,T6_,T6_,F6_,F6_,F6_,F6_] rfl rfl (any_of HT_.out (by kernel_rfl)) (fun _ _ _ h => h) (Or.inr ⟨by rfl, rfl⟩) ?_ ?_
   rotate_left
   ·simp only [Act.put, List.setIfInBounds_toArray, List.set_cons_zero, List.set_cons_succ, i64_w, i32_w]
    rfl
   refine pure_ (i := 41) (N := some 65) (v := undef) (a' := ?_) #[T6_,T6_,T6_,T6_,T6_,T6_,T6_,T6_,T6_,T6_,T6_,T6_,T6_,T6_,T6_,T6_,T6_,T6_,T6_,T6_,T6_,T6_,T6_,T6_,T6_,T6_,T6_,T6_,T6_,T6_,T6_,T6_,T6_,T6_,T6_,T6_,T6_,T6_,T6_,T6_,T6_,T6_,F6_,F6_,F6_] rfl rfl (any_of HT_.out (by kernel_rfl)) (fun _ _ _ h => h) (Or.inr ⟨by rfl, rfl⟩) ?_ ?_
   rotate_left
   ·simp only [Act.put, List.setIfInBounds_toArray, List.set_cons_zero, List.set_cons_succ, i64_w, i32_w]
    rfl
   refine pure_ (i := 42) (N := some 66) (v := undef) (a' := ?_) #[T6_,T6_,T6_,T6_,T6_,T6_,T6_,T6_,T6_,T6_,T6_,T6_,T6_,T6_,T6_,T6_,T6_,T6_,T6_,T6_,T6_,T6_,T6_,T6_,T6_,T6_,T6_,T6_,T6_,T6_,T6_,T6_,T6_,T6_,T6_,T6_,T6_,T6_,T6_,T6_,T6_,T6_,T6_,F6_,F6_] rfl rfl (any_of HT_.out (by kernel_rfl)) (fun _ _ _ h => h) (Or.inr ⟨by rfl, rfl⟩) ?_ ?_
   rotate_left
   ·simp only [Act.put, List.setIfInBounds_toArray, List.set_cons_zero, List.set_cons_succ, i64_w, i32_w]
    rfl
   refine pure_ (i := 43) (N := some 67) (v := undef) (a' := ?_) #[T6_,T6_,T6_,T6_,T6_,T6_,T6_,T6_,T6_,T6_,T6_,T6_,T6_,T6_,T6_,T6_,T6_,T6_,T6_,T6_,T6_,T6_,T6_,T6_,T6_,T6_,T6_,T6_,T6_,T6_,T6_,T6_,T6_,T6_,T6_,T6_,T6_,T6_,T6_,T6_,T6_,T6_,T6_,T6_,F6_] rfl rfl (any_of HT_.out (by kernel_rfl)) (fun _ _ _ h => h) (Or.inr ⟨by rfl, rfl⟩) ?_ ?_
   rotate_left
   ·simp only [Act.put, List.setIfInBounds_toArray, List.set_cons_zero, List.set_cons_succ, i64_w, i32_w]
    rfl
   refine pure_ (i := 44) (N := some 68) (v := ?_) (a' := ?_) #[T6_,T6_,T6_,T6_,T6_,T6_,T6_,T6_,T6_,T6_,T6_,T6_,T6_,T6_,T6_,T6_,T6_,T6_,T6_,T6_,T6_,T6_,T6_,T6_,T6_,T6_,T6_,T6_,T6_,T6_,T6_,T6_,T6_,T6_,T6_,T6_,T6_,T6_,T6_,T6_,T6_,T6_,T6_,T6_,T6_] rfl rfl (any_of HT_.out (by kernel_rfl)) (fun _ _ _ h => h) (Or.inl ⟨by rfl, ?_⟩) ?_ ?_
   rotate_left
   ·intro w'
    go_simp
    with_reducible rfl
   rotate_left
   ·simp only [Act.put, List.setIfInBounds_toArray, List.set_cons_zero, List.set_cons_succ, i64_w, i32_w]
    rfl
   refine done_ (done_of HT_.out (by kernel_rfl)) ?_
   try go_wp2
   (try simp only [← hji16])
   go_meet
   case rel => exact ⟨_, (true), (by first | rfl | (simp; done) | (simp [*]; done)), (by first | exact H' | exact ⟨by rw [hji16]; exact H'.out⟩ | exact ⟨by rw [← hji16]; exact H'.out⟩), ⟨by first | omega | exact Nat.le_refl _⟩, ⟨HBu HB.out⟩⟩
 case rest =>
  clear HC5
  try clear c1
  try clear c2
  try clear p2
  try clear p6
  try clear c7
  try clear c17
  try clear c18
  try clear c21
  try clear c22
  obtain ⟨kq, x68_4, rfl, HA, HJ4, HB⟩ := hcut
  (try clear hji16x); (try clear hji16y); (try clear hji16v); (try clear hji16u); (try clear hji16z); (try clear hji16_); (try clear hji16)
  cases kq with
  | zero => exact absurd HA.out (by simp [impl_foldPairs.j0])
  | succ kj4 =>
   have H := HA.out
   clear HA
   simp only [impl_foldPairs.j0] at H
   by_cases c26 : x68_4 = true
   ·subst c26
    have H1 : (some (([] : List Int), ([] : List (S113)), false)) = some (r1, r2, r3) := by rw [if_pos rfl] at H; exact H
    clear H
    have H := H1
    clear H1
    simp only [Option.some.injEq, Prod.mk.injEq] at H
    obtain ⟨rfl, rfl, rfl⟩ := H
    go_wp2
    go_ret3
    exact ⟨_, _, by first | rfl | (simp [errW_none, errW_some] <;> rfl) | (simp [*, errW_none, errW_some] <;> rfl), by first | exact Kd.R_nil _ _ _ _ _ | exact Kd.N_nil _ _ _ _ _ | exact Kd.V_nil _ _ _ _ _ | exact Kd.Q_nil _ _ _ _ _ | exact Kd.S_nil _ _ _ _ _, by first | exact Kd.R_nil _ _ _ _ _ | exact Kd.N_nil _ _ _ _ _ | exact Kd.V_nil _ _ _ _ _ | exact Kd.Q_nil _ _ _ _ _ | exact Kd.S_nil _ _ _ _ _, HBu HB.out⟩
   ·replace c26 := Bool.eq_false_iff.mpr c26
    subst c26
    have H1 : ((impl_with.f l0 a1 a3).bind fun t229 => (if 0 ≤ (wrap64 ((l0.length : Int) - 1)) then (if (wrap64 ((l0.length : Int) - 1)) ≤ (t229.length : Int) then ((some (t229.take ((wrap64 ((l0.length : Int) - 1)) : Int).toNat : List Int)).bind fun y232 => ((impl_DimsOk.f kj4 y232).bind fun t235 => (if t235 = true then (if 0 ≤ a1 then (if a1 < (l0.length : Int) then (if (rd l0 a1) = 1 then (impl_foldPairs.j1 kj4 l0 a1 0 a3 (wrap64 ((l0.length : Int) - 1)) y232) else (impl_foldPairs.j1 kj4 l0 a1 a2 a3 (wrap64 ((l0.length : Int) - 1)) y232)) else (none)) else (none)) else (some (([] : List Int), ([] : List (S113)), false))))) else (none)) else (none))) = some (r1, r2, r3) := by rw [if_neg (show ¬ (false = true) by decide)] at H; exact H
    clear H
    have H := H1
    clear H1
    replace H := Option.bind_eq_some_iff.mp H
    obtain ⟨t229, A270, H⟩ := H
    replace H : (if 0 ≤ (wrap64 ((l0.length : Int) - 1)) then (if (wrap64 ((l0.length : Int) - 1)) ≤ (t229.length : Int) then ((some (t229.take ((wrap64 ((l0.length : Int) - 1)) : Int).toNat : List Int)).bind fun y232 => ((impl_DimsOk.f kj4 y232).bind fun t235 => (if t235 = true then (if 0 ≤ a1 then (if a1 < (l0.length : Int) then (if (rd l0 a1) = 1 then (impl_foldPairs.j1 kj4 l0 a1 0 a3 (wrap64 ((l0.length : Int) - 1)) y232) else (impl_foldPairs.j1 kj4 l0 a1 a2 a3 (wrap64 ((l0.length : Int) - 1)) y232)) else (none)) else (none)) else (some (([] : List Int), ([] : List (S113)), false))))) else (none)) else (none)) = some (r1, r2, r3) := H
    have A27 := Aside0.mk A270
    clear A270
    obtain ⟨ji28, hji28⟩ : ∃ j_ : Int, (wrap64 ((l0.length : Int) - 1)) = j_ := ⟨_, rfl⟩
    replace H : (if 0 ≤ (ji28) then (if (ji28) ≤ (t229.length : Int) then ((some (t229.take ((ji28) : Int).toNat : List Int)).bind fun y232 => ((impl_DimsOk.f kj4 y232).bind fun t235 => (if t235 = true then (if 0 ≤ a1 then (if a1 < (l0.length : Int) then (if (rd l0 a1) = 1 then (impl_foldPairs.j1 kj4 l0 a1 0 a3 (ji28) y232) else (impl_foldPairs.j1 kj4 l0 a1 a2 a3 (ji28) y232)) else (none)) else (none)) else (some (([] : List Int), ([] : List (S113)), false))))) else (none)) else (none)) = some (r1, r2, r3) := by first | (rw [hji28] at H; exact H) | (simp only [hji28] at H ⊢; exact H)
    (try rw [hji28] at A27)
    have hji28w : (IntKind.i64.wrap ((l0.length : Int) - 1)) = ji28 := (i64_w _).trans hji28
    by_cases c29 : 0 ≤ (ji28)
    ·rw [if_pos c29] at H
     have c29b0 := eq_true c29
     have c29b1 : decide (0 ≤ (ji28)) = true := decide_eq_true c29
     clear c29
     by_cases c30 : (ji28) ≤ (t229.length : Int)
     ·rw [if_pos c30] at H
      have c30b0 := eq_true c30
      have c30b1 : decide ((ji28) ≤ (t229.length : Int)) = true := decide_eq_true c30
      clear c30
      obtain ⟨y232, hy232⟩ : ∃ y_ : List Int, y_ = (t229.take ((ji28) : Int).toNat) := ⟨_, rfl⟩
      replace H : ((impl_DimsOk.f kj4 y232).bind fun t235 => (if t235 = true then (if 0 ≤ a1 then (if a1 < (l0.length : Int) then (if (rd l0 a1) = 1 then (impl_foldPairs.j1 kj4 l0 a1 0 a3 (ji28) y232) else (impl_foldPairs.j1 kj4 l0 a1 a2 a3 (ji28) y232)) else (none)) else (none)) else (some (([] : List Int), ([] : List (S113)), false)))) = some (r1, r2, r3) := by first | (rw [hy232]; with_reducible exact H) | (have H2_ := (Option.bind_some _ _).symm.trans H; rw [hy232]; with_reducible exact H2_) | (have H2_ := (Option.bind_some _ _).symm.trans H; with_reducible exact H2_) | with_reducible exact H | (rw [hy232]; exact H) | exact H
      have Ny232 := Aside0.mk hy232
      clear hy232
      replace H := Option.bind_eq_some_iff.mp H
      obtain ⟨t235, A310, H⟩ := H
      replace H : (if t235 = true then (if 0 ≤ a1 then (if a1 < (l0.length : Int) then (if (rd l0 a1) = 1 then (impl_foldPairs.j1 kj4 l0 a1 0 a3 (ji28) y232) else (impl_foldPairs.j1 kj4 l0 a1 a2 a3 (ji28) y232)) else (none)) else (none)) else (some (([] : List Int), ([] : List (S113)), false))) = some (r1, r2, r3) := H
      have A31 := Aside0.mk A310
      clear A310
      by_cases c32 : t235 = true
      ·subst c32
       have H1 : (if 0 ≤ a1 then (if a1 < (l0.length : Int) then (if (rd l0 a1) = 1 then (impl_foldPairs.j1 kj4 l0 a1 0 a3 (ji28) y232) else (impl_foldPairs.j1 kj4 l0 a1 a2 a3 (ji28) y232)) else (none)) else (none)) = some (r1, r2, r3) := by rw [if_pos rfl] at H; exact H
       clear H
       have H := H1
       clear H1
       by_cases c33 : 0 ≤ a1
       ·rw [if_pos c33] at H
        have c33b0 : decide (0 ≤ a1) = true := decide_eq_true c33
        clear c33
        by_cases c34 : a1 < (l0.length : Int)
        ·rw [if_pos c34] at H
         have c34b0 : decide (a1 < (l0.length : Int)) = true := decide_eq_true c34
         clear c34
         have HC35 := Aside0.mk H
         clear H
         go_upto_if 82 with (first | ((with_reducible refine gate_callee (f := 92) rfl ?_); refine goesL_ (some 72) rfl rfl Try.func92 (by kernel_rfl) rfl #[.slice A0 l0.length c0, .int .i64 a1, .int .i64 a3] rfl (by (try simp only [List.map_toArray, List.map_cons, List.map_nil]); first | done | rfl | (simp only [List.length_drop, List.length_take]; rfl)) ?_; (with_reducible refine (impl_with.calls _ _ l0 a1 a3 t229 _ ?side1 ?side2 A27.out).mono ?_); (case side1 => exact (Cu ((Kd.C_below HR0.out HB.out)))); (case side2 => exact HC0.out); rintro e w36 ⟨v230, rfl, ho0, hb⟩; refine ⟨_, rfl, ?_⟩; have HO231 := Aside0.mk (Kd.R_lower ho0 (below_size (Hu HB.out))); replace HB := Aside0.mk (below_step (Hu HB.out) hb); (try clear hb); (try clear hb2); (try clear hk); (try clear hi); (try clear ho0); obtain ⟨Ao37, co37, eo37⟩ := Kd.R_slice HO231.out; subst eo37; have q38 : ((ji28) : Int) ≤ ((t229.length : Int) : Int) := of_decide_eq_true (by first | (with_reducible assumption) | assumption); obtain ⟨i038, hi038, _, hsz38, _⟩ := info_parts info3; have hcut38 := cut_to (P := Try.prog) 22 3 .i64 Try.underlying22 hi038 Ao37 t229.length co37 (ji28) (of_decide_eq_true (by first | (with_reducible assumption) | assumption)) q38 (Kd.R_reads' HO231.out).2.1; have hr38 := Kd.R_take (m := ((ji28) : Int).toNat) HO231.out (by omega); have hy38 : y232.length = ((ji28) : Int).toNat := (by rw [Ny232.out, List.length_take]; omega); rw [← Ny232.out] at hr38; rw [← hy38] at hr38 hcut38; clear hy38 hi038 hsz38 HO231; have HO234 := Aside0.mk hr38; clear hr38; replace q38 := eq_true q38) | ((with_reducible refine gate_callee (f := 93) rfl ?_); refine goesL_ (some 76) rfl rfl Try.func93 (by kernel_rfl) rfl #[.slice Ao37 y232.length co37] rfl (by (try simp only [List.map_toArray, List.map_cons, List.map_nil]); first | done | rfl | (simp only [List.length_drop, List.length_take]; rfl)) ?_; (with_reducible refine (impl_DimsOk.calls kj4 _ _ y232 true _ ?side1 ?side2 A31.out).mono ?_); (case side1 => exact (Cu ((Kd.R_reads' HO234.out).2.2))); (case side2 => exact (Kd.R_reads' HO234.out).2.1); rintro e w' ⟨rfl, ⟨nd, rfl⟩⟩; refine ⟨_, rfl, ?_⟩; have p236 : 0 ≤ (a1 : Int) := of_decide_eq_true (by first | (with_reducible assumption) | assumption); have q236 : a1 < (l0.length : Int) := of_decide_eq_true (by first | (with_reducible assumption) | assumption); obtain ⟨ad236, e236, hx236_0⟩ := Kd.at_int HR0.out a1 p236 q236; cases e236; replace hx236_0 := (HB.out.cell (World.block_lt_of_cell? w _ hx236_0)).trans hx236_0; replace p236 := eq_true p236; replace q236 := eq_true q236))
         (try simp only [Act.put, List.setIfInBounds_toArray, List.set_cons_zero, List.set_cons_succ])
         go_cut [2] (fun v2 wc => ∃ (kq : Nat) (x2_34 : Int), v2 = .int .i64 x2_34 ∧ Aside0 (impl_foldPairs.j1 kq l0 a1 x2_34 a3 (ji28) y232 = some (r1, r2, r3)) ∧ Aside0 (kq ≤ kj4) ∧ Aside0 (Kd.R (Kd.int .i64) 3 wc w.heap.size (fun _ => True) (.slice Ao37 y232.length co37) y232) ∧ Aside0 (Below w.heap.size w wc))
         case first =>
          have H := HC35.out
          clear HC35
          by_cases c39 : (rd l0 a1) = 1
          ·rw [if_pos c39] at H
           have c39b0 : ((rd l0 a1) == 1) = true := beq_iff_eq.mpr c39
           have c39b1 : ((rd l0 a1) != 1) = false := bne_eq_false_iff_eq.mpr c39
           clear c39
           (first | rw [c39b0] | (simp only [i64_w, i32_w]; rw [c39b0]) | skip)
           have H' := Aside0.mk H
           clear H
           go_wp2
           go_meet
           case rel => exact ⟨_, (0), (by first | rfl | (simp; done) | (simp [*]; done)), H', ⟨by have := HJ4.out; first | omega | exact Nat.le_refl _⟩, ⟨by (with_reducible repeat (first | apply Kd.R_alloc | apply Kd.R_drewN | apply Kd.R_drew)); exact HO234.out⟩, ⟨HBu HB.out⟩⟩
          ·rw [if_neg c39] at H
           have c39b0 : ((rd l0 a1) == 1) = false := beq_eq_false_iff_ne.mpr c39
           have c39b1 : ((rd l0 a1) != 1) = true := bne_iff_ne.mpr c39
           (first | rw [c39b0] | (simp only [i64_w, i32_w]; rw [c39b0]) | skip)
           have H' := Aside0.mk H
           clear H
           go_wp2
           go_meet
           case rel => exact ⟨_, (a2), (by first | rfl | (simp; done) | (simp [*]; done)), H', ⟨by have := HJ4.out; first | omega | exact Nat.le_refl _⟩, ⟨by (with_reducible repeat (first | apply Kd.R_alloc | apply Kd.R_drewN | apply Kd.R_drew)); exact HO234.out⟩, ⟨HBu HB.out⟩⟩
         case rest =>
          clear HC35
          try clear c1
          try clear c2
          try clear p2
          try clear q2
          try clear hx2
          try clear c3
          try clear q3
          try clear p6
          try clear c7
          try clear c9
          try clear c17
          try clear c18
          try clear c21
          try clear c22
          try clear p23
          try clear q23
          try clear hx23
          try clear c26
          try clear c29
          try clear c29b0
          try clear c29b1
          try clear c30
          try clear c30b0
          try clear c30b1
          try clear c32
          try clear c33
          try clear c33b0
          try clear c34
          try clear c34b0
          try clear q38
          try clear c39
          try clear c39b0
          try clear c39b1
          try clear hx236_0
          try clear p2
          try clear p236
          try clear p6
          try clear q236
          try clear q38
          obtain ⟨kq, x2_34, rfl, HA, HJ34, HO_12, HB⟩ := hcut
          (try clear hji16x); (try clear hji16y); (try clear hji16v); (try clear hji16u); (try clear hji16z); (try clear hji16_); (try clear hji16)
          (try clear hji28x); (try clear hji28y); (try clear hji28v); (try clear hji28u); (try clear hji28z); (try clear hji28_); (try clear hji28)
          cases kq with
          | zero => exact absurd HA.out (by simp [impl_foldPairs.j1])
          | succ kj34 =>
           have H := HA.out
           clear HA
           simp only [impl_foldPairs.j1] at H
           by_cases c40 : 0 ≤ (ji28)
           ·rw [if_pos c40] at H
            have c40b0 := eq_true c40
            have c40b1 : decide (0 ≤ (ji28)) = true := decide_eq_true c40
            clear c40
            by_cases c41 : (ji28) ≤ (l0.length : Int)
            ·rw [if_pos c41] at H
             have c41b0 := eq_true c41
             have c41b1 : decide ((ji28) ≤ (l0.length : Int)) = true := decide_eq_true c41
             clear c41
             replace H := Option.bind_eq_some_iff.mp H
             obtain ⟨⟨t238, t239, t240⟩, A420, H⟩ := H
             replace H : (impl_foldPairs.l0 kj34 l0 x2_34 a3 (ji28) y232 t238 t239 t240 (([] : List (S113))) 0) = some (r1, r2, r3) := H
             have A42 := Aside0.mk A420
             clear A420
             obtain ⟨y241, hy241⟩ : ∃ y_ : List (S113), y_ = (([] : List (S113))) := ⟨_, rfl⟩
             replace H : (impl_foldPairs.l0 kj34 l0 x2_34 a3 (ji28) y232 t238 t239 t240 y241 0) = some (r1, r2, r3) := by first | (rw [hy241]; with_reducible exact H) | (have H2_ := (Option.bind_some _ _).symm.trans H; rw [hy241]; with_reducible exact H2_) | (have H2_ := (Option.bind_some _ _).symm.trans H; with_reducible exact H2_) | with_reducible exact H | (rw [hy241]; exact H) | exact H
             have Ny241 := Aside0.mk hy241
             clear hy241
             have H' := Aside0.mk H
             clear H
             obtain ⟨i043, hi043, _, hsz43, _⟩ := info_parts info3
             obtain ⟨hcut43, hA43, hC43⟩ := print_take_of (P := Try.prog) (Value.int .i64) 0 22 3 .i64 Try.underlying22 hi043 hsz43 (some ad236) c0 l0 (ji28) (of_decide_eq_true (by first | (with_reducible assumption) | assumption)) (of_decide_eq_true (by first | (with_reducible assumption) | assumption)) HC0.out
             have HR237 := Aside0.mk (Kd.C_of_reads (h1 := fun _ => rfl) (hA43 _ (Kd.reads_of_C HR0.out)))
             have HC237 := Aside0.mk hC43
             clear hA43 hC43 hi043 hsz43
             obtain ⟨yrow43, hyrow43⟩ : ∃ y_ : List Int, y_ = (l0.take ((ji28) : Int).toNat) := ⟨_, rfl⟩
             rw [← hyrow43] at hcut43 HR237
             (try rw [← hyrow43] at HC237)
             (try rw [← hyrow43] at H')
             (try rw [← hyrow43] at H)
             (try rw [← hyrow43] at A27)
             (try rw [← hyrow43] at A31)
             (try rw [← hyrow43] at A42)
             have Nyrow43 := Aside0.mk hyrow43
             clear hyrow43
             go_wp2_with (first | ((with_reducible refine gate_callee (f := 80) rfl ?_); refine goesL_ (some 88) rfl rfl Try.func80 (by kernel_rfl) rfl #[.slice (some ad236) yrow43.length c0, .int .i64 a1] rfl (by (try simp only [List.map_toArray, List.map_cons, List.map_nil]); first | done | (rw [show yrow43.length = (ji28).toNat from (by rw [List.length_take]; have h_ : ((ji28) : Int) ≤ (l0.length : Int) := of_decide_eq_true (by first | (with_reducible assumption) | assumption); omega)] <;> rfl) | (simp only [hji28]; rfl) | rfl | (simp only [List.length_drop, List.length_take]; rfl)) ?_; (with_reducible refine (impl_lines.calls kj34 _ _ yrow43 a1 t238 t239 t240 _ ?side1 ?side2 A42.out).mono ?_); (case side1 => exact (Cu ((Kd.C_below HR237.out HB.out)))); (case side2 => exact HC237.out); rintro e w' ⟨rfl, ⟨nd, rfl⟩⟩; refine ⟨_, rfl, ?_⟩) | ((with_reducible refine gate_dst (N := 92) rfl ?_); refine Kd.R_lit k113 _ 113 ?hg (N := 92) ?hd (xs := ([] : List (S113))) (inner := []) (ok := fun _ => True) (okp := fun _ => True) ?hr ?hp (fun _ hk => hk) trivial (Below.refl _ _) (Nat.le_refl _) (by simp) ?_; (case hd => rfl); (case hg => rfl); (case hr => first | (go_simp; done) | (go_simp; rfl)); (case hp => exact (Reps.none _ _)); intro v242 w44 ho45 hb hg_ hnew_; clear hg_ hnew_; (first | rw [← Ny241.out] at ho45 | (simp only [Int.reduceToNat] at ho45; rw [← Ny241.out] at ho45)); have HO243 := Aside0.mk (Kd.R_lower ho45 (below_size (Hu HB.out))); replace HO_12 := Aside0.mk (Rb HO_12.out hb); replace HB := Aside0.mk (below_step (Hu HB.out) hb); clear hb ho45))
             go_loopg [16, 17] kj34 (fun kq v16 v17 w' => ∃ (x16_3 : List (S113)) (x17_3 : Int), v17 = .int .i64 x17_3 ∧ Aside0 (impl_foldPairs.l0 kq l0 x2_34 a3 (ji28) y232 t238 t239 t240 x16_3 x17_3 = some (r1, r2, r3)) ∧ Aside0 (kq ≤ kj34) ∧ Aside0 (Kd.R (Kd.int .i64) 3 w' w.heap.size (fun _ => True) (.slice Ao37 y232.length co37) y232) ∧ Aside0 (Kd.R k113 113 w' w.heap.size (fun _ => True) v16 x16_3) ∧ Aside0 (Below w.heap.size w w'))
             case atStart => exact ⟨(y241), (0), (by first | rfl | (simp; done) | (simp [*]; done)), H', ⟨Nat.le_refl _⟩, ⟨by (with_reducible repeat (first | apply Kd.R_alloc | apply Kd.R_drewN | apply Kd.R_drew)); exact HO_12.out⟩, ⟨by (with_reducible repeat (first | apply Kd.R_alloc | apply Kd.R_drewN | apply Kd.R_drew)); exact HO243.out⟩, ⟨HBu HB.out⟩⟩
             case round =>
              clear H'
              try clear c1
              try clear c2
              try clear p2
              try clear q2
              try clear hx2
              try clear c3
              try clear q3
              try clear c4
              try clear p6
              try clear c7
              try clear c8
              try clear c9
              try clear c17
              try clear c18
              try clear c21
              try clear c22
              try clear p23
              try clear q23
              try clear hx23
              try clear c26
              try clear c29
              try clear c29b0
              try clear c29b1
              try clear c30
              try clear c30b0
              try clear c30b1
              try clear c32
              try clear c33
              try clear c33b0
              try clear c34
              try clear c34b0
              try clear q38
              try clear c39
              try clear c39b0
              try clear c39b1
              try clear c40
              try clear c40b0
              try clear c40b1
              try clear c41
              try clear c41b0
              try clear c41b1
              try clear hx236_0
              try clear p2
              try clear p23
              try clear p236
              try clear p6
              try clear q2
              try clear q23
              try clear q236
              try clear q3
              try clear q38
              obtain ⟨x16_3, x17_3, rfl, HA, HK3, HO_12, HO_16, HB⟩ := hrel
              cases gk with
              | zero => exact absurd HA.out (by simp [impl_foldPairs.l0])
              | succ k3 =>
               have H := HA.out
               clear HA
               simp only [impl_foldPairs.l0] at H
               by_cases c46 : x17_3 < t238
               ·rw [if_pos c46] at H
                have c46b0 : decide (x17_3 < t238) = true := decide_eq_true c46
                clear c46
                have H' := Aside0.mk H
                clear H
                go_wp2
                go_loopg [16, 18] k3 (fun kq v16 v18 w' => ∃ (x16_4 : List (S113)) (x18_4 : Int), v18 = .int .i64 x18_4 ∧ Aside0 (impl_foldPairs.l1 kq l0 x2_34 a3 (ji28) y232 t238 t239 t240 x16_4 x17_3 x18_4 = some (r1, r2, r3)) ∧ Aside0 (kq ≤ k3) ∧ Aside0 (Kd.R (Kd.int .i64) 3 w' w.heap.size (fun _ => True) (.slice Ao37 y232.length co37) y232) ∧ Aside0 (Kd.R k113 113 w' w.heap.size (fun _ => True) v16 x16_4) ∧ Aside0 (Below w.heap.size w w'))
                case atStart => exact ⟨(x16_3), (0), (by first | rfl | (simp; done) | (simp [*]; done)), H', ⟨Nat.le_refl _⟩, ⟨by (with_reducible repeat (first | apply Kd.R_alloc | apply Kd.R_drewN | apply Kd.R_drew)); exact HO_12.out⟩, ⟨by (with_reducible repeat (first | apply Kd.R_alloc | apply Kd.R_drewN | apply Kd.R_drew)); exact HO_16.out⟩, ⟨HBu HB.out⟩⟩
                case round =>
                 clear H'
                 try clear c1
                 try clear c2
                 try clear p2
                 try clear q2
                 try clear hx2
                 try clear c3
                 try clear q3
                 try clear c4
                 try clear p6
                 try clear c7
                 try clear c8
                 try clear c9
                 try clear c17
                 try clear c18
                 try clear c21
                 try clear c22
                 try clear p23
                 try clear q23
                 try clear hx23
                 try clear c26
                 try clear c29
                 try clear c29b0
                 try clear c29b1
                 try clear c30
                 try clear c30b0
                 try clear c30b1
                 try clear c32
                 try clear c33
                 try clear c33b0
                 try clear c34
                 try clear c34b0
                 try clear q38
                 try clear c39
                 try clear c39b0
                 try clear c39b1
                 try clear c40
                 try clear c40b0
                 try clear c40b1
                 try clear c41
                 try clear c41b0
                 try clear c41b1
                 try clear c46
                 try clear c46b0
                 try clear hx236_0
                 try clear p2
                 try clear p23
                 try clear p236
                 try clear p6
                 try clear q2
                 try clear q23
                 try clear q236
                 try clear q3
                 try clear q38
                 obtain ⟨x16_4, x18_4, rfl, HA, HK4, HO_12, HO_16, HB⟩ := hrel
                 cases gk with
                 | zero => exact absurd HA.out (by simp [impl_foldPairs.l1])
                 | succ k4 =>
                  have H := HA.out
                  clear HA
                  simp only [impl_foldPairs.l1] at H
                  by_cases c47 : x18_4 < t239
                  ·rw [if_pos c47] at H
                   have c47b0 : decide (x18_4 < t239) = true := decide_eq_true c47
                   clear c47
                   have H' := Aside0.mk H
                   clear H
                   go_wp2
                   go_loopg [16, 19] k4 (fun kq v16 v19 w' => ∃ (x16_5 : List (S113)) (x19_5 : Int), v19 = .int .i64 x19_5 ∧ Aside0 (impl_foldPairs.l2 kq l0 x2_34 a3 (ji28) y232 t238 t239 t240 x16_5 x17_3 x18_4 x19_5 = some (r1, r2, r3)) ∧ Aside0 (kq ≤ k4) ∧ Aside0 (Kd.R (Kd.int .i64) 3 w' w.heap.size (fun _ => True) (.slice Ao37 y232.length co37) y232) ∧ Aside0 (Kd.R k113 113 w' w.heap.size (fun _ => True) v16 x16_5) ∧ Aside0 (Below w.heap.size w w'))
                   case atStart => exact ⟨(x16_4), (0), (by first | rfl | (simp; done) | (simp [*]; done)), H', ⟨Nat.le_refl _⟩, ⟨by (with_reducible repeat (first | apply Kd.R_alloc | apply Kd.R_drewN | apply Kd.R_drew)); exact HO_12.out⟩, ⟨by (with_reducible repeat (first | apply Kd.R_alloc | apply Kd.R_drewN | apply Kd.R_drew)); exact HO_16.out⟩, ⟨HBu HB.out⟩⟩
                   case round =>
                    clear H'
                    try clear c1
                    try clear c2
                    try clear p2
                    try clear q2
                    try clear hx2
                    try clear c3
                    try clear q3
                    try clear c4
                    try clear p6
                    try clear c7
                    try clear c8
                    try clear c9
                    try clear c17
                    try clear c18
                    try clear c21
                    try clear c22
                    try clear p23
                    try clear q23
                    try clear hx23
                    try clear c26
                    try clear c29
                    try clear c29b0
                    try clear c29b1
                    try clear c30
                    try clear c30b0
                    try clear c30b1
                    try clear c32
                    try clear c33
                    try clear c33b0
                    try clear c34
                    try clear c34b0
                    try clear q38
                    try clear c39
                    try clear c39b0
                    try clear c39b1
                    try clear c40
                    try clear c40b0
                    try clear c40b1
                    try clear c41
                    try clear c41b0
                    try clear c41b1
                    try clear c46
                    try clear c46b0
                    try clear c47
                    try clear c47b0
                    try clear hx236_0
                    try clear p2
                    try clear p23
                    try clear p236
                    try clear p6
                    try clear q2
                    try clear q23
                    try clear q236
                    try clear q3
                    try clear q38
                    obtain ⟨x16_5, x19_5, rfl, HA, HK5, HO_12, HO_16, HB⟩ := hrel
                    cases gk with
                    | zero => exact absurd HA.out (by simp [impl_foldPairs.l2])
                    | succ k5 =>
                     have H := HA.out
                     clear HA
                     simp only [impl_foldPairs.l2] at H
                     by_cases c48 : x19_5 < t240
                     ·rw [if_pos c48] at H
                      have c48b0 : decide (x19_5 < t240) = true := decide_eq_true c48
                      clear c48
                      have H' := Aside0.mk H
                      clear H
                      go_wp2
                      go_loopg [16, 20] k5 (fun kq v16 v20 w' => ∃ (x16_6 : List (S113)) (x20_6 : Int), v20 = .int .i64 x20_6 ∧ Aside0 (impl_foldPairs.l3 kq l0 x2_34 a3 (ji28) y232 t238 t239 t240 x16_6 x17_3 x18_4 x19_5 x20_6 = some (r1, r2, r3)) ∧ Aside0 (kq ≤ k5) ∧ Aside0 (Kd.R (Kd.int .i64) 3 w' w.heap.size (fun _ => True) (.slice Ao37 y232.length co37) y232) ∧ Aside0 (Kd.R k113 113 w' w.heap.size (fun _ => True) v16 x16_6) ∧ Aside0 (Below w.heap.size w w'))
                      case atStart => exact ⟨(x16_5), (0), (by first | rfl | (simp; done) | (simp [*]; done)), H', ⟨Nat.le_refl _⟩, ⟨by (with_reducible repeat (first | apply Kd.R_alloc | apply Kd.R_drewN | apply Kd.R_drew)); exact HO_12.out⟩, ⟨by (with_reducible repeat (first | apply Kd.R_alloc | apply Kd.R_drewN | apply Kd.R_drew)); exact HO_16.out⟩, ⟨HBu HB.out⟩⟩
                      case round =>
                       clear H'
                       try clear c1
                       try clear c2
                       try clear p2
                       try clear q2
                       try clear hx2
                       try clear c3
                       try clear q3
                       try clear c4
                       try clear p6
                       try clear c7
                       try clear c8
                       try clear c9
                       try clear c17
                       try clear c18
                       try clear c21
                       try clear c22
                       try clear p23
                       try clear q23
                       try clear hx23
                       try clear c26
                       try clear c29
                       try clear c29b0
                       try clear c29b1
                       try clear c30
                       try clear c30b0
                       try clear c30b1
                       try clear c32
                       try clear c33
                       try clear c33b0
                       try clear c34
                       try clear c34b0
                       try clear q38
                       try clear c39
                       try clear c39b0
                       try clear c39b1
                       try clear c40
                       try clear c40b0
                       try clear c40b1
                       try clear c41
                       try clear c41b0
                       try clear c41b1
                       try clear c46
                       try clear c46b0
                       try clear c47
                       try clear c47b0
                       try clear c48
                       try clear c48b0
                       try clear hx236_0
                       try clear p2
                       try clear p23
                       try clear p236
                       try clear p6
                       try clear q2
                       try clear q23
                       try clear q236
                       try clear q3
                       try clear q38
                       obtain ⟨x16_6, x20_6, rfl, HA, HK6, HO_12, HO_16, HB⟩ := hrel
                       cases gk with
                       | zero => exact absurd HA.out (by simp [impl_foldPairs.l3])
                       | succ k6 =>
                        have H := HA.out
                        clear HA
                        simp only [impl_foldPairs.l3] at H
                        by_cases c49 : 0 ≤ (ji28)
                        ·rw [if_pos c49] at H
                         have c49b0 : decide (0 ≤ (ji28)) = true := decide_eq_true c49
                         clear c49
                         by_cases c50 : (ji28) < (l0.length : Int)
                         ·rw [if_pos c50] at H
                          have c50b0 : decide ((ji28) < (l0.length : Int)) = true := decide_eq_true c50
                          clear c50
                          by_cases c51 : x20_6 < (rd l0 (ji28))
                          ·rw [if_pos c51] at H
                           have c51b0 : decide (x20_6 < (rd l0 (ji28))) = true := decide_eq_true c51
                           clear c51
                           by_cases c52 : x16_6.length < 8796093022208
                           ·rw [if_pos c52] at H
                            have LMc52 := Aside0.mk c52
                            clear c52
                            obtain ⟨y246, hy246⟩ : ∃ y_ : List (S113), y_ = (x16_6 ++ [(⟨wrap64 ((wrap64 ((wrap64 ((wrap64 ((wrap64 ((wrap64 (x17_3 * t239)) + x18_4)) * t240)) + x19_5)) * (rd l0 (ji28)))) + x20_6), wrap64 ((wrap64 ((wrap64 ((wrap64 ((wrap64 (x17_3 * a3)) + (wrap64 (x18_4 * x2_34)))) + x20_6)) * t240)) + x19_5)⟩ : S113)]) := ⟨_, rfl⟩
                            replace H : (impl_foldPairs.l3 k6 l0 x2_34 a3 (ji28) y232 t238 t239 t240 y246 x17_3 x18_4 x19_5 (wrap64 (x20_6 + 1))) = some (r1, r2, r3) := by first | (rw [hy246]; with_reducible exact H) | (have H2_ := (Option.bind_some _ _).symm.trans H; rw [hy246]; with_reducible exact H2_) | (have H2_ := (Option.bind_some _ _).symm.trans H; with_reducible exact H2_) | with_reducible exact H | (rw [hy246]; exact H) | exact H
                            have Ny246 := Aside0.mk hy246
                            clear hy246
                            have H' := Aside0.mk H
                            clear H
                            have p244 : 0 ≤ ((ji28) : Int) := of_decide_eq_true (by first | (with_reducible assumption) | assumption)
                            have q244 : (ji28) < (l0.length : Int) := of_decide_eq_true (by first | (with_reducible assumption) | assumption)
                            obtain ⟨ad244, e244, hx244_0⟩ := Kd.at_int HR0.out (ji28) p244 q244
                            obtain rfl : ad236 = ad244 := (by injection e244)
                            replace hx244_0 := (HB.out.cell (World.block_lt_of_cell? w _ hx244_0)).trans hx244_0
                            replace p244 := eq_true p244
                            replace q244 := eq_true q244
                            have p245 : 0 ≤ ((ji28) : Int) := of_decide_eq_true (by first | (with_reducible assumption) | assumption)
                            have q245 : (ji28) < (l0.length : Int) := of_decide_eq_true (by first | (with_reducible assumption) | assumption)
                            obtain ⟨ad245, e245, hx245_0⟩ := Kd.at_int HR0.out (ji28) p245 q245
                            obtain rfl : ad236 = ad245 := (by injection e245)
                            replace hx245_0 := (HB.out.cell (World.block_lt_of_cell? w _ hx245_0)).trans hx245_0
                            replace p245 := eq_true p245
                            replace q245 := eq_true q245
                            go_wp2_with (first | ((with_reducible refine gate_builtin (b := .append) (xs := #[.tmp 116, .tmp 147]) rfl ?_); at_builtin; refine Kd.R_append k113 (w0 := w) w.heap.size rfl (.tmp 116) (.tmp 147) 85 113 (.agg #[(.int .i64 0), (.int .i64 0)]) 16 rfl Try.underlying85 info113 rfl (by decide) (by omega) u16 x16_6 (⟨wrap64 ((wrap64 ((wrap64 ((wrap64 ((wrap64 ((wrap64 (x17_3 * t239)) + x18_4)) * t240)) + x19_5)) * (rd l0 (ji28)))) + x20_6), wrap64 ((wrap64 ((wrap64 ((wrap64 ((wrap64 (x17_3 * a3)) + (wrap64 (x18_4 * x2_34)))) + x20_6)) * t240)) + x19_5)⟩ : S113) [.int .i64 (wrap64 ((wrap64 ((wrap64 ((wrap64 ((wrap64 ((wrap64 (x17_3 * t239)) + x18_4)) * t240)) + x19_5)) * (rd l0 (ji28)))) + x20_6)), .int .i64 (wrap64 ((wrap64 ((wrap64 ((wrap64 ((wrap64 (x17_3 * a3)) + (wrap64 (x18_4 * x2_34)))) + x20_6)) * t240)) + x19_5))] (fun _ => True) (fun _ => False) rfl rfl ?aP (fun _ hk => hk.elim) ?aF ?aO ?aB ?aS ?aL ?_; (case aP => exact k113_mkM _ _ _ (⟨wrap64 ((wrap64 ((wrap64 ((wrap64 ((wrap64 ((wrap64 (x17_3 * t239)) + x18_4)) * t240)) + x19_5)) * (rd l0 (ji28)))) + x20_6), wrap64 ((wrap64 ((wrap64 ((wrap64 ((wrap64 (x17_3 * a3)) + (wrap64 (x18_4 * x2_34)))) + x20_6)) * t240)) + x19_5)⟩ : S113)); (case aB => exact (Hu HB.out)); (case aF => exact (fun _ _ => trivial)); (case aO => exact (Ru HO_16.out)); (case aS => exact (below_size (Hu HB.out))); (case aL => have := LMc52.out; omega); intro v247 w53 ho hb hg hat; rw [← Ny246.out] at ho; have n0_ := Aside0.mk (Kd.R_over' (Ru HO_12.out) (Kd.R_typed (Ru HO_16.out)) (by decide) hg); have n1_ := Aside0.mk (hb); have n2_ := Aside0.mk (ho); clear HO_12; clear HB; clear HO_16; have HO_12 := n0_; have HB := n1_; have HO248 := n2_; clear n0_ n1_ n2_; clear ho hb hg hat))
                            go_roundg k6
                            case measure => have := HJ4.out; have := HJ34.out; have := HK3.out; have := HK4.out; have := HK5.out; have := HK6.out; omega
                            case rel => exact ⟨(y246), (wrap64 (x20_6 + 1)), (by first | rfl | (simp; done) | (simp [*]; done)), H', ⟨by have := HJ4.out; have := HJ34.out; have := HK3.out; have := HK4.out; have := HK5.out; have := HK6.out; omega⟩, ⟨by (with_reducible repeat (first | apply Kd.R_alloc | apply Kd.R_drewN | apply Kd.R_drew)); exact HO_12.out⟩, ⟨by (with_reducible repeat (first | apply Kd.R_alloc | apply Kd.R_drewN | apply Kd.R_drew)); exact HO248.out⟩, ⟨HBu HB.out⟩⟩
                           ·rw [if_neg c52] at H
                            exact absurd H (by simp)
                          ·rw [if_neg c51] at H
                           have c51b0 : decide (x20_6 < (rd l0 (ji28))) = false := decide_eq_false c51
                           clear c51
                           have H' := Aside0.mk H
                           clear H
                           have p244 : 0 ≤ ((ji28) : Int) := of_decide_eq_true (by first | (with_reducible assumption) | assumption)
                           have q244 : (ji28) < (l0.length : Int) := of_decide_eq_true (by first | (with_reducible assumption) | assumption)
                           obtain ⟨ad244, e244, hx244_0⟩ := Kd.at_int HR0.out (ji28) p244 q244
                           obtain rfl : ad236 = ad244 := (by injection e244)
                           replace hx244_0 := (HB.out.cell (World.block_lt_of_cell? w _ hx244_0)).trans hx244_0
                           replace p244 := eq_true p244
                           replace q244 := eq_true q244
                           go_wp2
                           go_roundg k6
                           case measure => have := HJ4.out; have := HJ34.out; have := HK3.out; have := HK4.out; have := HK5.out; have := HK6.out; omega
                           case rel => exact ⟨(x16_6), (wrap64 (x19_5 + 1)), (by first | rfl | (simp; done) | (simp [*]; done)), H', ⟨by have := HJ4.out; have := HJ34.out; have := HK3.out; have := HK4.out; have := HK5.out; have := HK6.out; omega⟩, ⟨by (with_reducible repeat (first | apply Kd.R_alloc | apply Kd.R_drewN | apply Kd.R_drew)); exact HO_12.out⟩, ⟨by (with_reducible repeat (first | apply Kd.R_alloc | apply Kd.R_drewN | apply Kd.R_drew)); exact HO_16.out⟩, ⟨HBu HB.out⟩⟩
                         ·rw [if_neg c50] at H
                          exact absurd H (by simp)
                        ·rw [if_neg c49] at H
                         exact absurd H (by simp)
                     ·rw [if_neg c48] at H
                      have c48b0 : decide (x19_5 < t240) = false := decide_eq_false c48
                      clear c48
                      have H' := Aside0.mk H
                      clear H
                      go_wp2
                      go_roundg k5
                      case measure => have := HJ4.out; have := HJ34.out; have := HK3.out; have := HK4.out; have := HK5.out; omega
                      case rel => exact ⟨(x16_5), (wrap64 (x18_4 + 1)), (by first | rfl | (simp; done) | (simp [*]; done)), H', ⟨by have := HJ4.out; have := HJ34.out; have := HK3.out; have := HK4.out; have := HK5.out; omega⟩, ⟨by (with_reducible repeat (first | apply Kd.R_alloc | apply Kd.R_drewN | apply Kd.R_drew)); exact HO_12.out⟩, ⟨by (with_reducible repeat (first | apply Kd.R_alloc | apply Kd.R_drewN | apply Kd.R_drew)); exact HO_16.out⟩, ⟨HBu HB.out⟩⟩
                  ·rw [if_neg c47] at H
                   have c47b0 : decide (x18_4 < t239) = false := decide_eq_false c47
                   clear c47
                   have H' := Aside0.mk H
                   clear H
                   go_wp2
                   go_roundg k4
                   case measure => have := HJ4.out; have := HJ34.out; have := HK3.out; have := HK4.out; omega
                   case rel => exact ⟨(x16_4), (wrap64 (x17_3 + 1)), (by first | rfl | (simp; done) | (simp [*]; done)), H', ⟨by have := HJ4.out; have := HJ34.out; have := HK3.out; have := HK4.out; omega⟩, ⟨by (with_reducible repeat (first | apply Kd.R_alloc | apply Kd.R_drewN | apply Kd.R_drew)); exact HO_12.out⟩, ⟨by (with_reducible repeat (first | apply Kd.R_alloc | apply Kd.R_drewN | apply Kd.R_drew)); exact HO_16.out⟩, ⟨HBu HB.out⟩⟩
               ·rw [if_neg c46] at H
                have c46b0 : decide (x17_3 < t238) = false := decide_eq_false c46
                clear c46
                simp only [Option.some.injEq, Prod.mk.injEq] at H
                obtain ⟨rfl, rfl, rfl⟩ := H
                go_wp2
                go_ret3
                exact ⟨_, _, by first | rfl | (simp [errW_none, errW_some] <;> rfl) | (simp only [← hji28]; first | rfl | (simp [errW_none, errW_some] <;> rfl)) | (simp [*, errW_none, errW_some] <;> rfl), by (with_reducible repeat (first | apply Kd.R_alloc | apply Kd.R_drewN | apply Kd.R_drew)); exact HO_12.out, by (with_reducible repeat (first | apply Kd.R_alloc | apply Kd.R_drewN | apply Kd.R_drew)); exact HO_16.out, HBu HB.out⟩
            ·rw [if_neg c41] at H
             exact absurd H (by simp)
           ·rw [if_neg c40] at H
            exact absurd H (by simp)
        ·rw [if_neg c34] at H
         exact absurd H (by simp)
       ·rw [if_neg c33] at H
        exact absurd H (by simp)
      ·replace c32 := Bool.eq_false_iff.mpr c32
       subst c32
       have H1 : (some (([] : List Int), ([] : List (S113)), false)) = some (r1, r2, r3) := by rw [if_neg (show ¬ (false = true) by decide)] at H; exact H
       clear H
       have H := H1
       clear H1
       simp only [Option.some.injEq, Prod.mk.injEq] at H
       obtain ⟨rfl, rfl, rfl⟩ := H
       go_wp2_with (first | ((with_reducible refine gate_callee (f := 92) rfl ?_); refine goesL_ (some 72) rfl rfl Try.func92 (by kernel_rfl) rfl #[.slice A0 l0.length c0, .int .i64 a1, .int .i64 a3] rfl (by (try simp only [List.map_toArray, List.map_cons, List.map_nil]); first | done | rfl | (simp only [List.length_drop, List.length_take]; rfl)) ?_; (with_reducible refine (impl_with.calls _ _ l0 a1 a3 t229 _ ?side1 ?side2 A27.out).mono ?_); (case side1 => exact (Cu ((Kd.C_below HR0.out HB.out)))); (case side2 => exact HC0.out); rintro e w54 ⟨v230, rfl, ho0, hb⟩; refine ⟨_, rfl, ?_⟩; have HO231 := Aside0.mk (Kd.R_lower ho0 (below_size (Hu HB.out))); replace HB := Aside0.mk (below_step (Hu HB.out) hb); (try clear hb); (try clear hb2); (try clear hk); (try clear hi); (try clear ho0); obtain ⟨Ao55, co55, eo55⟩ := Kd.R_slice HO231.out; subst eo55; have q56 : ((ji28) : Int) ≤ ((t229.length : Int) : Int) := of_decide_eq_true (by first | (with_reducible assumption) | assumption); obtain ⟨i056, hi056, _, hsz56, _⟩ := info_parts info3; have hcut56 := cut_to (P := Try.prog) 22 3 .i64 Try.underlying22 hi056 Ao55 t229.length co55 (ji28) (of_decide_eq_true (by first | (with_reducible assumption) | assumption)) q56 (Kd.R_reads' HO231.out).2.1; have hr56 := Kd.R_take (m := ((ji28) : Int).toNat) HO231.out (by omega); have hy56 : y232.length = ((ji28) : Int).toNat := (by rw [Ny232.out, List.length_take]; omega); rw [← Ny232.out] at hr56; rw [← hy56] at hr56 hcut56; clear hy56 hi056 hsz56 HO231; have HO234 := Aside0.mk hr56; clear hr56; replace q56 := eq_true q56) | ((with_reducible refine gate_callee (f := 93) rfl ?_); refine goesL_ (some 76) rfl rfl Try.func93 (by kernel_rfl) rfl #[.slice Ao55 y232.length co55] rfl (by (try simp only [List.map_toArray, List.map_cons, List.map_nil]); first | done | rfl | (simp only [List.length_drop, List.length_take]; rfl)) ?_; (with_reducible refine (impl_DimsOk.calls kj4 _ _ y232 false _ ?side1 ?side2 A31.out).mono ?_); (case side1 => exact (Cu ((Kd.R_reads' HO234.out).2.2))); (case side2 => exact (Kd.R_reads' HO234.out).2.1); rintro e w' ⟨rfl, ⟨nd, rfl⟩⟩; refine ⟨_, rfl, ?_⟩))
       go_ret3
       exact ⟨_, _, by first | rfl | (simp [errW_none, errW_some] <;> rfl) | (simp only [← hji28]; first | rfl | (simp [errW_none, errW_some] <;> rfl)) | (simp [*, errW_none, errW_some] <;> rfl), by first | exact Kd.R_nil _ _ _ _ _ | exact Kd.N_nil _ _ _ _ _ | exact Kd.V_nil _ _ _ _ _ | exact Kd.Q_nil _ _ _ _ _ | exact Kd.S_nil _ _ _ _ _, by first | exact Kd.R_nil _ _ _ _ _ | exact Kd.N_nil _ _ _ _ _ | exact Kd.V_nil _ _ _ _ _ | exact Kd.Q_nil _ _ _ _ _ | exact Kd.S_nil _ _ _ _ _, HBu HB.out⟩
     ·rw [if_neg c30] at H
      exact absurd H (by simp)
    ·rw [if_neg c29] at H
     exact absurd H (by simp)

end Go.Proofs.Ytcpemdedmepfeab.PFnExactFold
