-- Printed out of the translation, hand-written contracts beside it; checked by the kernel alone.
import Derived.Test.YtcpemdedmepfeaaPFnExactSlicex0
import Derived.Test.YtcpemdedmepfeaaPFnExactSlicex3
import Derived.Test.YtcpemdedmepfeaaPFnExactSlicex4
namespace Go.Proofs.Ytcpemdedmepfeaa.PFnExactSlice
open Go.RowKit Go.Proofs.YtcpemdedmepfeaaW.PrintWords Go.Proofs.YtcpemdedmepfeaaW.PrintLast Go.Proofs.YtcpemdedmepfeaaW.PrintMore
attribute [local go_sem] max2_int min2_int max_two min_two max_three min_three max_four min_four   -- for this text's walks alone
set_option linter.unusedVariables false
set_option linter.unusedSimpArgs false

/-! ### spec_Slice: function 10 -/
mutual
def spec_Slice.j0 : Nat → Int → Int → Int → Int → Bool → List Int → List Int → Int → Int → Option (List Int × List Int × Int × Int)
  | 0, _, _, _, _, _, _, _, _, _ => none
  | k + 1, x1, x2, x3, x4, x45, x158000, x158001, x158002, x158003 => if x45 = true then (some (([] : List Int), ([] : List Int), 0, 0)) else (if (wrap64 (x2 + (wrap64 ((wrap64 (x3 - 1)) * x4)))) < 0 then (spec_Slice.j1 k x1 x2 x3 x4 true x158000 x158001 x158002 x158003) else (if 0 ≤ x1 then (if x1 < (x158000.length : Int) then (spec_Slice.j1 k x1 x2 x3 x4 (decide ((wrap64 (x2 + (wrap64 ((wrap64 (x3 - 1)) * x4)))) ≥ (rd x158000 x1))) x158000 x158001 x158002 x158003) else (none)) else (none)))
def spec_Slice.j1 : Nat → Int → Int → Int → Int → Bool → List Int → List Int → Int → Int → Option (List Int × List Int × Int × Int)
  | 0, _, _, _, _, _, _, _, _, _ => none
  | k + 1, x1, x2, x3, x4, x63, x158000, x158001, x158002, x158003 => if x63 = true then (some (([] : List Int), ([] : List Int), 0, 0)) else ((spec_l3Copy.f x158000 x158001 x158002 x158003).bind fun bt162 => (if 0 ≤ x1 then (if x1 < (bt162.2.1.length : Int) then (if x1 < (bt162.1.length : Int) then ((some (bt162.1.set (x1 : Int).toNat x3 : List Int)).bind fun y172 => ((some (bt162.2.1.set (x1 : Int).toNat (wrap64 ((rd bt162.2.1 x1) * x4)) : List Int)).bind fun y174 => (if x3 = 1 then ((spec_l3Or.f k y172 (y174.set (x1 : Int).toNat 0) (wrap64 (bt162.2.2.1 + (wrap64 (x2 * (rd bt162.2.1 x1))))) bt162.2.2.2).bind fun bt176 => (some (bt176.1, bt176.2.1, bt176.2.2.1, bt176.2.2.2))) else ((spec_l3Or.f k y172 y174 (wrap64 (bt162.2.2.1 + (wrap64 (x2 * (rd bt162.2.1 x1))))) bt162.2.2.2).bind fun bt184 => (some (bt184.1, bt184.2.1, bt184.2.2.1, bt184.2.2.2)))))) else (none)) else (none)) else (none)))
end
def spec_Slice.f (k : Nat) (l0_0 : List Int) (l0_1 : List Int) (a0_2 : Int) (a0_3 : Int) (a1 : Int) (a2 : Int) (a3 : Int) (a4 : Int) : Option (List Int × List Int × Int × Int) := (spec_l3Axis.f k l0_0 l0_1 a0_2 a0_3 a1).bind fun t159 => (if t159 = true then (if a3 < 1 then (spec_Slice.j0 k a1 a2 a3 a4 true l0_0 l0_1 a0_2 a0_3) else (if a3 > 4096 then (spec_Slice.j0 k a1 a2 a3 a4 true l0_0 l0_1 a0_2 a0_3) else (if a4 < (-4096) then (spec_Slice.j0 k a1 a2 a3 a4 true l0_0 l0_1 a0_2 a0_3) else (if a4 > 4096 then (spec_Slice.j0 k a1 a2 a3 a4 true l0_0 l0_1 a0_2 a0_3) else (if a2 < 0 then (spec_Slice.j0 k a1 a2 a3 a4 true l0_0 l0_1 a0_2 a0_3) else (if 0 ≤ a1 then (if a1 < (l0_0.length : Int) then (spec_Slice.j0 k a1 a2 a3 a4 (decide (a2 ≥ (rd l0_0 a1))) l0_0 l0_1 a0_2 a0_3) else (none)) else (none))))))) else (spec_Slice.j0 k a1 a2 a3 a4 true l0_0 l0_1 a0_2 a0_3))
theorem spec_Slice.mono_l : ∀ k, (∀ y0 y1 y2 y3 y4 y5 y6 y7 y8, LeO (spec_Slice.j0 k y0 y1 y2 y3 y4 y5 y6 y7 y8) (spec_Slice.j0 (k + 1) y0 y1 y2 y3 y4 y5 y6 y7 y8)) ∧ (∀ y0 y1 y2 y3 y4 y5 y6 y7 y8, LeO (spec_Slice.j1 k y0 y1 y2 y3 y4 y5 y6 y7 y8) (spec_Slice.j1 (k + 1) y0 y1 y2 y3 y4 y5 y6 y7 y8))
  | 0 => ⟨fun _ _ _ _ _ _ _ _ _ r h => by simp [spec_Slice.j0] at h, fun _ _ _ _ _ _ _ _ _ r h => by simp [spec_Slice.j1] at h⟩
  | k + 1 => by
    obtain ⟨ih0, ih1⟩ := spec_Slice.mono_l k
    refine ⟨?_, ?_⟩
    · intro y0 y1 y2 y3 y4 y5 y6 y7 y8
      unfold spec_Slice.j0
      repeat' first
      | (with_reducible exact ih0 _ _ _ _ _ _ _ _ _)
      | (with_reducible exact ih1 _ _ _ _ _ _ _ _ _)
      | (with_reducible exact spec_l3Axis.mono _ _ _ _ _ _)
      | (with_reducible exact spec_l3Or.mono _ _ _ _ _)
      | (with_reducible exact LeO.refl _)
      | (with_reducible exact LeO.none _)
      | (with_reducible refine LeO.ite ?_ ?_)
      | (with_reducible refine LeO.bind ?_ (fun _ => ?_))
      | exact ih0 _ _ _ _ _ _ _ _ _
      | exact ih1 _ _ _ _ _ _ _ _ _
      | exact spec_l3Axis.mono _ _ _ _ _ _
      | exact spec_l3Or.mono _ _ _ _ _
      | exact LeO.none _
      | refine LeO.ite ?_ ?_
      | refine LeO.bind ?_ (fun _ => ?_)
    · intro y0 y1 y2 y3 y4 y5 y6 y7 y8
      unfold spec_Slice.j1
      repeat' first
      | (with_reducible exact ih0 _ _ _ _ _ _ _ _ _)
      | (with_reducible exact ih1 _ _ _ _ _ _ _ _ _)
      | (with_reducible exact spec_l3Axis.mono _ _ _ _ _ _)
      | (with_reducible exact spec_l3Or.mono _ _ _ _ _)
      | (with_reducible exact LeO.refl _)
      | (with_reducible exact LeO.none _)
      | (with_reducible refine LeO.ite ?_ ?_)
      | (with_reducible refine LeO.bind ?_ (fun _ => ?_))
      | exact ih0 _ _ _ _ _ _ _ _ _
      | exact ih1 _ _ _ _ _ _ _ _ _
      | exact spec_l3Axis.mono _ _ _ _ _ _
      | exact spec_l3Or.mono _ _ _ _ _
      | exact LeO.none _
      | refine LeO.ite ?_ ?_
      | refine LeO.bind ?_ (fun _ => ?_)
theorem spec_Slice.mono : ∀ a0 a1 a2 a3 a4 a5 a6 a7 k, LeO (spec_Slice.f k a0 a1 a2 a3 a4 a5 a6 a7) (spec_Slice.f (k + 1) a0 a1 a2 a3 a4 a5 a6 a7) := by
  intro a0 a1 a2 a3 a4 a5 a6 a7 k
  obtain ⟨ih0, ih1⟩ := spec_Slice.mono_l k
  unfold spec_Slice.f
  repeat' first
      | (with_reducible exact ih0 _ _ _ _ _ _ _ _ _)
      | (with_reducible exact ih1 _ _ _ _ _ _ _ _ _)
      | (with_reducible exact spec_l3Axis.mono _ _ _ _ _ _)
      | (with_reducible exact spec_l3Or.mono _ _ _ _ _)
      | (with_reducible exact LeO.refl _)
      | (with_reducible exact LeO.none _)
      | (with_reducible refine LeO.ite ?_ ?_)
      | (with_reducible refine LeO.bind ?_ (fun _ => ?_))
      | exact ih0 _ _ _ _ _ _ _ _ _
      | exact ih1 _ _ _ _ _ _ _ _ _
      | exact spec_l3Axis.mono _ _ _ _ _ _
      | exact spec_l3Or.mono _ _ _ _ _
      | exact LeO.none _
      | refine LeO.ite ?_ ?_
      | refine LeO.bind ?_ (fun _ => ?_)
def spec_Slice.T7 : Bool × List (List Nat × List Nat) := (true, [([], []), ([0], [0]), ([], []), ([], []), ([3], [3]), ([], []), ([4, 5], [4, 5]), ([6], [6]), ([2, 7], [2, 7]), ([1, 8], [1, 8]), ([0, 1, 2, 3, 4, 5, 6, 7, 8, 9], []), ([10, 9, 0, 1, 2, 3, 4, 5, 6, 7, 8, 9], [9, 10])])
def spec_Slice.B7 : List Nat := [0, 1, 0, 0, 8, 0, 56, 120, 252, 511, 1023, 2047]
theorem spec_Slice.tab7 : rtab .any (opsOf Try.f10 7) = spec_Slice.T7 := by kernel_rfl
theorem spec_Slice.bits7 : waitsOk spec_Slice.T7.2 spec_Slice.B7 = true := by kernel_rfl
def spec_Slice.T9 : Bool × List (List Nat × List Nat) := (true, [([], []), ([0], [0]), ([], []), ([], []), ([3], [3]), ([], []), ([4, 5], [4, 5]), ([6], [6]), ([], []), ([7, 8], [7, 8]), ([1, 2, 0, 1, 2, 3, 4, 5, 6, 7, 8, 9], [1, 2]), ([10, 9, 0, 1, 2, 3, 4, 5, 6, 7, 8, 9], [9, 10])])
def spec_Slice.B9 : List Nat := [0, 1, 0, 0, 8, 0, 56, 120, 0, 504, 1023, 2047]
theorem spec_Slice.tab9 : rtab .any (opsOf Try.f10 9) = spec_Slice.T9 := by kernel_rfl
theorem spec_Slice.bits9 : waitsOk spec_Slice.T9.2 spec_Slice.B9 = true := by kernel_rfl
set_option maxHeartbeats 8000000 in
set_option maxRecDepth 100000 in
theorem spec_Slice.calls (k : Nat) (A0_0 : Option Addr) (c0_0 : Nat) (l0_0 : List Int) (A0_1 : Option Addr) (c0_1 : Nat) (l0_1 : List Int) (a0_2 : Int) (a0_3 : Int) (a1 : Int) (a2 : Int) (a3 : Int) (a4 : Int) (r1 : List Int) (r2 : List Int) (r3 : Int) (r4 : Int) (w : World) (hr0_0 : Kd.C (Kd.int .i64) w A0_0 l0_0.length l0_0) (hc0_0 : l0_0.length ≤ c0_0) (hr0_1 : Kd.C (Kd.int .i64) w A0_1 l0_1.length l0_1) (hc0_1 : l0_1.length ≤ c0_1) (h : spec_Slice.f k l0_0 l0_1 a0_2 a0_3 a1 a2 a3 a4 = some (r1, r2, r3, r4)) :
    Calls Try.prog 10 #[.agg #[.slice A0_0 l0_0.length c0_0, .slice A0_1 l0_1.length c0_1, .int .i64 a0_2, .int .i64 a0_3], .int .i64 a1, .int .i64 a2, .int .i64 a3, .int .i64 a4] w fun e w' => ∃ v0_ v1_ : Value, e = .returned (.agg #[v0_, v1_, .int .i64 r3, .int .i64 r4]) ∧ Kd.V (Kd.int .i64) 3 w' w.heap.size (fun k_ => (w.heap.size ≤ k_)) v0_ r1 ∧ Kd.V (Kd.int .i64) 3 w' w.heap.size (fun k_ => (w.heap.size ≤ k_)) v1_ r2 ∧ Below w.heap.size w w' := by
  have hu26 := Try.underlying26
  have HR0_0 := Aside0.mk hr0_0
  have HC0_0 := Aside0.mk hc0_0
  clear hr0_0 hc0_0
  have HR0_1 := Aside0.mk hr0_1
  have HC0_1 := Aside0.mk hc0_1
  clear hr0_1 hc0_1
  have HB := Aside0.mk (Below.refl w.heap.size w)
  have H : ((spec_l3Axis.f k l0_0 l0_1 a0_2 a0_3 a1).bind fun t159 => (if t159 = true then (if a3 < 1 then (spec_Slice.j0 k a1 a2 a3 a4 true l0_0 l0_1 a0_2 a0_3) else (if a3 > 4096 then (spec_Slice.j0 k a1 a2 a3 a4 true l0_0 l0_1 a0_2 a0_3) else (if a4 < (-4096) then (spec_Slice.j0 k a1 a2 a3 a4 true l0_0 l0_1 a0_2 a0_3) else (if a4 > 4096 then (spec_Slice.j0 k a1 a2 a3 a4 true l0_0 l0_1 a0_2 a0_3) else (if a2 < 0 then (spec_Slice.j0 k a1 a2 a3 a4 true l0_0 l0_1 a0_2 a0_3) else (if 0 ≤ a1 then (if a1 < (l0_0.length : Int) then (spec_Slice.j0 k a1 a2 a3 a4 (decide (a2 ≥ (rd l0_0 a1))) l0_0 l0_1 a0_2 a0_3) else (none)) else (none))))))) else (spec_Slice.j0 k a1 a2 a3 a4 true l0_0 l0_1 a0_2 a0_3))) = some (r1, r2, r3, r4) := h
  clear h
  have HC6 := Aside0.mk H
  clear H
  go_enter Try.func10, Try.ntmps10
  go_upto_region 1 with (first | ((with_reducible refine gate_dst (N := 5) rfl ?_); refine box_event ?hg (N := 5) ?hd (cs := #[.slice A0_0 l0_0.length c0_0, .slice A0_1 l0_1.length c0_1, .int .i64 a0_2, .int .i64 a0_3]) (t := 26) ?hr ?_; (case hd => rfl); (case hg => rfl); (case hr => first | (go_simp; done) | (go_simp; rfl)); intro gb157 hg w7 hbox hb; have n0_ := Aside0.mk (below_step (by repeat (first | (with_reducible first | exact HB.out | apply below_alloc | apply pw_below_drewN | apply below_drew1) | exact HB.out)) hb); have n1_ := Aside0.mk (hbox); have n2_ := Aside0.mk ((by rw [hg]; exact (below_size (by repeat (first | (with_reducible first | exact HB.out | apply below_alloc | apply pw_below_drewN | apply below_drew1) | exact HB.out))) : w.heap.size ≤ gb157)); have n3_ := Aside0.mk ((by rw [hg]; exact (below_size (by repeat (first | (with_reducible first | exact HB.out | apply below_alloc | apply pw_below_drewN | apply below_drew1) | exact HB.out))) : w.heap.size ≤ gb157)); clear HB; have HB := n0_; have BK157 := n1_; have GW157 := n2_; have GE157 := n3_; clear n0_ n1_ n2_ n3_; clear hb hbox hg) | ((with_reducible refine gate_dst (N := 10) rfl ?_); refine box_event ?hg (N := 10) ?hd (cs := #[.slice none 0 0, .slice none 0 0, .int .i64 0, .int .i64 0]) (t := 26) ?hr ?_; (case hd => rfl); (case hg => rfl); (case hr => first | (go_simp; done) | (go_simp; rfl)); intro gb158 hg w8 hbox hb; have n0_ := Aside0.mk (blk_below (g := gb157) (o := .cells #[.slice A0_0 l0_0.length c0_0, .slice A0_1 l0_1.length c0_1, .int .i64 a0_2, .int .i64 a0_3] 26 (0, 0)) (by (with_reducible repeat (first | refine blk_drewN ?_ _ | refine blk_drew ?_ | refine blk_alloc ?_ _)); exact BK157.out) hb); have n1_ := Aside0.mk (below_step (by repeat (first | (with_reducible first | exact HB.out | apply below_alloc | apply pw_below_drewN | apply below_drew1 | refine below_set ?_ GE157.out) | exact HB.out)) hb); have n2_ := Aside0.mk (hbox); have n3_ := Aside0.mk ((by rw [hg]; exact (below_size (by repeat (first | (with_reducible first | exact HB.out | apply below_alloc | apply pw_below_drewN | apply below_drew1 | refine below_set ?_ GE157.out) | exact HB.out))) : w.heap.size ≤ gb158)); have n4_ := Aside0.mk ((by rw [hg]; exact (below_size (by repeat (first | (with_reducible first | exact HB.out | apply below_alloc | apply pw_below_drewN | apply below_drew1 | refine below_set ?_ GE157.out) | exact HB.out))) : w.heap.size ≤ gb158)); have n5_ := Aside0.mk ((by rw [hg]; exact Nat.ne_of_lt (blk_lt (g := gb157) (o := .cells #[.slice A0_0 l0_0.length c0_0, .slice A0_1 l0_1.length c0_1, .int .i64 a0_2, .int .i64 a0_3] 26 (0, 0)) (by (with_reducible repeat (first | refine blk_drewN ?_ _ | refine blk_drew ?_ | refine blk_alloc ?_ _)); exact BK157.out)) : gb157 ≠ gb158)); have n6_ := Aside0.mk ((by rw [hg]; exact Nat.ne_of_gt (blk_lt (g := gb157) (o := .cells #[.slice A0_0 l0_0.length c0_0, .slice A0_1 l0_1.length c0_1, .int .i64 a0_2, .int .i64 a0_3] 26 (0, 0)) (by (with_reducible repeat (first | refine blk_drewN ?_ _ | refine blk_drew ?_ | refine blk_alloc ?_ _)); exact BK157.out)) : gb158 ≠ gb157)); clear BK157; clear HB; have BK157 := n0_; have HB := n1_; have BK158 := n2_; have GW158 := n3_; have GE158 := n4_; have NB157_158 := n5_; have NB158_157 := n6_; clear n0_ n1_ n2_ n3_ n4_ n5_ n6_; clear hb hbox hg))
  (try simp only [Act.put, List.setIfInBounds_toArray, List.set_cons_zero, List.set_cons_succ])
  go_cut [45] (fun v45 wc => ∃ (kq : Nat) (x45_5 : Bool), v45 = .bool x45_5 ∧ Aside0 (spec_Slice.j0 kq a1 a2 a3 a4 x45_5 l0_0 l0_1 a0_2 a0_3 = some (r1, r2, r3, r4)) ∧ Aside0 (kq ≤ k) ∧ Aside0 (wc.heap[gb157]? = some (.cells #[(.slice A0_0 l0_0.length c0_0), (.slice A0_1 l0_1.length c0_1), .int .i64 a0_2, .int .i64 a0_3] 26 (0, 0))) ∧ Aside0 (wc.heap[gb158]? = some (.cells #[(.slice none 0 0), (.slice none 0 0), .int .i64 0, .int .i64 0] 26 (0, 0))) ∧ Aside0 (Below w.heap.size w wc))
  case first =>
    have H := HC6.out
    clear HC6
    replace H := Option.bind_eq_some_iff.mp H
    obtain ⟨t159, A90, H⟩ := H
    replace H : (if t159 = true then (if a3 < 1 then (spec_Slice.j0 k a1 a2 a3 a4 true l0_0 l0_1 a0_2 a0_3) else (if a3 > 4096 then (spec_Slice.j0 k a1 a2 a3 a4 true l0_0 l0_1 a0_2 a0_3) else (if a4 < (-4096) then (spec_Slice.j0 k a1 a2 a3 a4 true l0_0 l0_1 a0_2 a0_3) else (if a4 > 4096 then (spec_Slice.j0 k a1 a2 a3 a4 true l0_0 l0_1 a0_2 a0_3) else (if a2 < 0 then (spec_Slice.j0 k a1 a2 a3 a4 true l0_0 l0_1 a0_2 a0_3) else (if 0 ≤ a1 then (if a1 < (l0_0.length : Int) then (spec_Slice.j0 k a1 a2 a3 a4 (decide (a2 ≥ (rd l0_0 a1))) l0_0 l0_1 a0_2 a0_3) else (none)) else (none))))))) else (spec_Slice.j0 k a1 a2 a3 a4 true l0_0 l0_1 a0_2 a0_3)) = some (r1, r2, r3, r4) := H
    have A9 := Aside0.mk A90
    clear A90
    by_cases c10 : t159 = true
    · subst c10
      have H1 : (if a3 < 1 then (spec_Slice.j0 k a1 a2 a3 a4 true l0_0 l0_1 a0_2 a0_3) else (if a3 > 4096 then (spec_Slice.j0 k a1 a2 a3 a4 true l0_0 l0_1 a0_2 a0_3) else (if a4 < (-4096) then (spec_Slice.j0 k a1 a2 a3 a4 true l0_0 l0_1 a0_2 a0_3) else (if a4 > 4096 then (spec_Slice.j0 k a1 a2 a3 a4 true l0_0 l0_1 a0_2 a0_3) else (if a2 < 0 then (spec_Slice.j0 k a1 a2 a3 a4 true l0_0 l0_1 a0_2 a0_3) else (if 0 ≤ a1 then (if a1 < (l0_0.length : Int) then (spec_Slice.j0 k a1 a2 a3 a4 (decide (a2 ≥ (rd l0_0 a1))) l0_0 l0_1 a0_2 a0_3) else (none)) else (none))))))) = some (r1, r2, r3, r4) := by rw [if_pos rfl] at H; exact H
      clear H
      have H := H1
      clear H1
      by_cases c11 : a3 < 1
      · rw [if_pos c11] at H
        have c11b0 : decide (a3 < 1) = true := decide_eq_true c11
        clear c11
        (first | rw [c11b0] | (simp only [i64_w, i32_w]; rw [c11b0]) | skip)
        have H' := Aside0.mk H
        clear H
        have hnb12 := NB157_158.out
        have hnc12 := NB158_157.out
        have hcz13_0 : w8.cell? ⟨gb157, 0, none⟩ = some (.slice A0_0 l0_0.length c0_0) := (blk_cell BK157.out 0).trans rfl
        have hcz13_1 : w8.cell? ⟨gb157, 1, none⟩ = some (.slice A0_1 l0_1.length c0_1) := (blk_cell BK157.out 1).trans rfl
        have hcz13_2 : w8.cell? ⟨gb157, 2, none⟩ = some (.int .i64 a0_2) := (blk_cell BK157.out 2).trans rfl
        have hcz13_3 : w8.cell? ⟨gb157, 3, none⟩ = some (.int .i64 a0_3) := (blk_cell BK157.out 3).trans rfl
        have hfz13_0 := blk_frozen BK157.out 0
        have hfz13_1 := blk_frozen BK157.out 1
        have hfz13_2 := blk_frozen BK157.out 2
        have hfz13_3 := blk_frozen BK157.out 3
        go_wp2_with (first | ((with_reducible refine gate_callee (f := 35) rfl ?_); refine goesL_ (some 15) rfl rfl Try.func35 (by kernel_rfl) rfl #[.agg #[.slice A0_0 l0_0.length c0_0, .slice A0_1 l0_1.length c0_1, .int .i64 a0_2, .int .i64 a0_3], .int .i64 a1] rfl (by (try simp only [List.map_toArray, List.map_cons, List.map_nil]); first | done | rfl | (simp only [List.length_drop, List.length_take]; rfl)) ?_; (with_reducible refine (spec_l3Axis.calls k _ _ l0_0 _ _ l0_1 a0_2 a0_3 a1 true _ ?side1 ?side2 ?side3 ?side4 A9.out).mono ?_); (case side1 => repeat (first | exact (Kd.C_below HR0_0.out HB.out) | (with_reducible refine Kd.C_alloc ?_ _) | (with_reducible refine Kd.C_drewN ?_ _) | (with_reducible refine Kd.C_drew ?_))); (case side2 => exact HC0_0.out); (case side3 => repeat (first | exact (Kd.C_below HR0_1.out HB.out) | (with_reducible refine Kd.C_alloc ?_ _) | (with_reducible refine Kd.C_drewN ?_ _) | (with_reducible refine Kd.C_drew ?_))); (case side4 => exact HC0_1.out); rintro e w14 ⟨rfl, hb⟩; refine ⟨_, rfl, ?_⟩; have n0_ := Aside0.mk (blk_below (g := gb157) (o := .cells #[.slice A0_0 l0_0.length c0_0, .slice A0_1 l0_1.length c0_1, .int .i64 a0_2, .int .i64 a0_3] 26 (0, 0)) (by (with_reducible repeat (first | refine blk_drewN ?_ _ | refine blk_drew ?_ | refine blk_alloc ?_ _)); exact BK157.out) hb); have n1_ := Aside0.mk (blk_below (g := gb158) (o := .cells #[.slice none 0 0, .slice none 0 0, .int .i64 0, .int .i64 0] 26 (0, 0)) (by (with_reducible repeat (first | refine blk_drewN ?_ _ | refine blk_drew ?_ | refine blk_alloc ?_ _)); exact BK158.out) hb); have n2_ := Aside0.mk (below_step (by repeat (first | (with_reducible first | exact HB.out | apply below_alloc | apply pw_below_drewN | apply below_drew1 | refine below_set ?_ GE157.out | refine below_set ?_ GE158.out) | exact HB.out)) hb); clear BK157; clear BK158; clear HB; have BK157 := n0_; have BK158 := n1_; have HB := n2_; clear n0_ n1_ n2_; (try clear hb); (try clear hb2); (try clear hk); (try clear hi)))
        go_meet
        case rel => exact ⟨_, (true), (by first | rfl | (simp; done) | (simp [*]; done)), H', ⟨by first | omega | exact Nat.le_refl _⟩, ⟨by (with_reducible repeat (first | refine blk_drewN ?_ _ | refine blk_drew ?_ | refine blk_alloc ?_ _)); exact BK157.out⟩, ⟨by (with_reducible repeat (first | refine blk_drewN ?_ _ | refine blk_drew ?_ | refine blk_alloc ?_ _)); exact BK158.out⟩, ⟨by repeat (first | (with_reducible first | exact HB.out | apply below_alloc | apply pw_below_drewN | apply below_drew1 | refine below_set ?_ GE157.out | refine below_set ?_ GE158.out) | exact HB.out)⟩⟩
      · rw [if_neg c11] at H
        have c11b0 : decide (a3 < 1) = false := decide_eq_false c11
        clear c11
        (first | rw [c11b0] | (simp only [i64_w, i32_w]; rw [c11b0]) | skip)
        by_cases c15 : a3 > 4096
        · rw [if_pos c15] at H
          have c15b0 : decide (4096 < a3) = true := decide_eq_true c15
          clear c15
          have H' := Aside0.mk H
          clear H
          have hnb16 := NB157_158.out
          have hnc16 := NB158_157.out
          have hcz17_0 : w8.cell? ⟨gb157, 0, none⟩ = some (.slice A0_0 l0_0.length c0_0) := (blk_cell BK157.out 0).trans rfl
          have hcz17_1 : w8.cell? ⟨gb157, 1, none⟩ = some (.slice A0_1 l0_1.length c0_1) := (blk_cell BK157.out 1).trans rfl
          have hcz17_2 : w8.cell? ⟨gb157, 2, none⟩ = some (.int .i64 a0_2) := (blk_cell BK157.out 2).trans rfl
          have hcz17_3 : w8.cell? ⟨gb157, 3, none⟩ = some (.int .i64 a0_3) := (blk_cell BK157.out 3).trans rfl
          have hfz17_0 := blk_frozen BK157.out 0
          have hfz17_1 := blk_frozen BK157.out 1
          have hfz17_2 := blk_frozen BK157.out 2
          have hfz17_3 := blk_frozen BK157.out 3
          go_wp2_with (first | ((with_reducible refine gate_callee (f := 35) rfl ?_); refine goesL_ (some 15) rfl rfl Try.func35 (by kernel_rfl) rfl #[.agg #[.slice A0_0 l0_0.length c0_0, .slice A0_1 l0_1.length c0_1, .int .i64 a0_2, .int .i64 a0_3], .int .i64 a1] rfl (by (try simp only [List.map_toArray, List.map_cons, List.map_nil]); first | done | rfl | (simp only [List.length_drop, List.length_take]; rfl)) ?_; (with_reducible refine (spec_l3Axis.calls k _ _ l0_0 _ _ l0_1 a0_2 a0_3 a1 true _ ?side1 ?side2 ?side3 ?side4 A9.out).mono ?_); (case side1 => repeat (first | exact (Kd.C_below HR0_0.out HB.out) | (with_reducible refine Kd.C_alloc ?_ _) | (with_reducible refine Kd.C_drewN ?_ _) | (with_reducible refine Kd.C_drew ?_))); (case side2 => exact HC0_0.out); (case side3 => repeat (first | exact (Kd.C_below HR0_1.out HB.out) | (with_reducible refine Kd.C_alloc ?_ _) | (with_reducible refine Kd.C_drewN ?_ _) | (with_reducible refine Kd.C_drew ?_))); (case side4 => exact HC0_1.out); rintro e w18 ⟨rfl, hb⟩; refine ⟨_, rfl, ?_⟩; have n0_ := Aside0.mk (blk_below (g := gb157) (o := .cells #[.slice A0_0 l0_0.length c0_0, .slice A0_1 l0_1.length c0_1, .int .i64 a0_2, .int .i64 a0_3] 26 (0, 0)) (by (with_reducible repeat (first | refine blk_drewN ?_ _ | refine blk_drew ?_ | refine blk_alloc ?_ _)); exact BK157.out) hb); have n1_ := Aside0.mk (blk_below (g := gb158) (o := .cells #[.slice none 0 0, .slice none 0 0, .int .i64 0, .int .i64 0] 26 (0, 0)) (by (with_reducible repeat (first | refine blk_drewN ?_ _ | refine blk_drew ?_ | refine blk_alloc ?_ _)); exact BK158.out) hb); have n2_ := Aside0.mk (below_step (by repeat (first | (with_reducible first | exact HB.out | apply below_alloc | apply pw_below_drewN | apply below_drew1 | refine below_set ?_ GE157.out | refine below_set ?_ GE158.out) | exact HB.out)) hb); clear BK157; clear BK158; clear HB; have BK157 := n0_; have BK158 := n1_; have HB := n2_; clear n0_ n1_ n2_; (try clear hb); (try clear hb2); (try clear hk); (try clear hi)))
          go_meet
          case rel => exact ⟨_, (true), (by first | rfl | (simp; done) | (simp [*]; done)), H', ⟨by first | omega | exact Nat.le_refl _⟩, ⟨by (with_reducible repeat (first | refine blk_drewN ?_ _ | refine blk_drew ?_ | refine blk_alloc ?_ _)); exact BK157.out⟩, ⟨by (with_reducible repeat (first | refine blk_drewN ?_ _ | refine blk_drew ?_ | refine blk_alloc ?_ _)); exact BK158.out⟩, ⟨by repeat (first | (with_reducible first | exact HB.out | apply below_alloc | apply pw_below_drewN | apply below_drew1 | refine below_set ?_ GE157.out | refine below_set ?_ GE158.out) | exact HB.out)⟩⟩
        · rw [if_neg c15] at H
          have c15b0 : decide (4096 < a3) = false := decide_eq_false c15
          clear c15
          by_cases c19 : a4 < (-4096)
          · rw [if_pos c19] at H
            have c19b0 : decide (a4 < (-4096)) = true := decide_eq_true c19
            clear c19
            have H' := Aside0.mk H
            clear H
            have hnb20 := NB157_158.out
            have hnc20 := NB158_157.out
            have hcz21_0 : w8.cell? ⟨gb157, 0, none⟩ = some (.slice A0_0 l0_0.length c0_0) := (blk_cell BK157.out 0).trans rfl
            have hcz21_1 : w8.cell? ⟨gb157, 1, none⟩ = some (.slice A0_1 l0_1.length c0_1) := (blk_cell BK157.out 1).trans rfl
            have hcz21_2 : w8.cell? ⟨gb157, 2, none⟩ = some (.int .i64 a0_2) := (blk_cell BK157.out 2).trans rfl
            have hcz21_3 : w8.cell? ⟨gb157, 3, none⟩ = some (.int .i64 a0_3) := (blk_cell BK157.out 3).trans rfl
            have hfz21_0 := blk_frozen BK157.out 0
            have hfz21_1 := blk_frozen BK157.out 1
            have hfz21_2 := blk_frozen BK157.out 2
            have hfz21_3 := blk_frozen BK157.out 3
            go_wp2_with (first | ((with_reducible refine gate_callee (f := 35) rfl ?_); refine goesL_ (some 15) rfl rfl Try.func35 (by kernel_rfl) rfl #[.agg #[.slice A0_0 l0_0.length c0_0, .slice A0_1 l0_1.length c0_1, .int .i64 a0_2, .int .i64 a0_3], .int .i64 a1] rfl (by (try simp only [List.map_toArray, List.map_cons, List.map_nil]); first | done | rfl | (simp only [List.length_drop, List.length_take]; rfl)) ?_; (with_reducible refine (spec_l3Axis.calls k _ _ l0_0 _ _ l0_1 a0_2 a0_3 a1 true _ ?side1 ?side2 ?side3 ?side4 A9.out).mono ?_); (case side1 => repeat (first | exact (Kd.C_below HR0_0.out HB.out) | (with_reducible refine Kd.C_alloc ?_ _) | (with_reducible refine Kd.C_drewN ?_ _) | (with_reducible refine Kd.C_drew ?_))); (case side2 => exact HC0_0.out); (case side3 => repeat (first | exact (Kd.C_below HR0_1.out HB.out) | (with_reducible refine Kd.C_alloc ?_ _) | (with_reducible refine Kd.C_drewN ?_ _) | (with_reducible refine Kd.C_drew ?_))); (case side4 => exact HC0_1.out); rintro e w22 ⟨rfl, hb⟩; refine ⟨_, rfl, ?_⟩; have n0_ := Aside0.mk (blk_below (g := gb157) (o := .cells #[.slice A0_0 l0_0.length c0_0, .slice A0_1 l0_1.length c0_1, .int .i64 a0_2, .int .i64 a0_3] 26 (0, 0)) (by (with_reducible repeat (first | refine blk_drewN ?_ _ | refine blk_drew ?_ | refine blk_alloc ?_ _)); exact BK157.out) hb); have n1_ := Aside0.mk (blk_below (g := gb158) (o := .cells #[.slice none 0 0, .slice none 0 0, .int .i64 0, .int .i64 0] 26 (0, 0)) (by (with_reducible repeat (first | refine blk_drewN ?_ _ | refine blk_drew ?_ | refine blk_alloc ?_ _)); exact BK158.out) hb); have n2_ := Aside0.mk (below_step (by repeat (first | (with_reducible first | exact HB.out | apply below_alloc | apply pw_below_drewN | apply below_drew1 | refine below_set ?_ GE157.out | refine below_set ?_ GE158.out) | exact HB.out)) hb); clear BK157; clear BK158; clear HB; have BK157 := n0_; have BK158 := n1_; have HB := n2_; clear n0_ n1_ n2_; (try clear hb); (try clear hb2); (try clear hk); (try clear hi)))
            go_meet
            case rel => exact ⟨_, (true), (by first | rfl | (simp; done) | (simp [*]; done)), H', ⟨by first | omega | exact Nat.le_refl _⟩, ⟨by (with_reducible repeat (first | refine blk_drewN ?_ _ | refine blk_drew ?_ | refine blk_alloc ?_ _)); exact BK157.out⟩, ⟨by (with_reducible repeat (first | refine blk_drewN ?_ _ | refine blk_drew ?_ | refine blk_alloc ?_ _)); exact BK158.out⟩, ⟨by repeat (first | (with_reducible first | exact HB.out | apply below_alloc | apply pw_below_drewN | apply below_drew1 | refine below_set ?_ GE157.out | refine below_set ?_ GE158.out) | exact HB.out)⟩⟩
          · rw [if_neg c19] at H
            have c19b0 : decide (a4 < (-4096)) = false := decide_eq_false c19
            clear c19
            by_cases c23 : a4 > 4096
            · rw [if_pos c23] at H
              have c23b0 : decide (4096 < a4) = true := decide_eq_true c23
              clear c23
              have H' := Aside0.mk H
              clear H
              have hnb24 := NB157_158.out
              have hnc24 := NB158_157.out
              have hcz25_0 : w8.cell? ⟨gb157, 0, none⟩ = some (.slice A0_0 l0_0.length c0_0) := (blk_cell BK157.out 0).trans rfl
              have hcz25_1 : w8.cell? ⟨gb157, 1, none⟩ = some (.slice A0_1 l0_1.length c0_1) := (blk_cell BK157.out 1).trans rfl
              have hcz25_2 : w8.cell? ⟨gb157, 2, none⟩ = some (.int .i64 a0_2) := (blk_cell BK157.out 2).trans rfl
              have hcz25_3 : w8.cell? ⟨gb157, 3, none⟩ = some (.int .i64 a0_3) := (blk_cell BK157.out 3).trans rfl
              have hfz25_0 := blk_frozen BK157.out 0
              have hfz25_1 := blk_frozen BK157.out 1
              have hfz25_2 := blk_frozen BK157.out 2
              have hfz25_3 := blk_frozen BK157.out 3
              go_wp2_with (first | ((with_reducible refine gate_callee (f := 35) rfl ?_); refine goesL_ (some 15) rfl rfl Try.func35 (by kernel_rfl) rfl #[.agg #[.slice A0_0 l0_0.length c0_0, .slice A0_1 l0_1.length c0_1, .int .i64 a0_2, .int .i64 a0_3], .int .i64 a1] rfl (by (try simp only [List.map_toArray, List.map_cons, List.map_nil]); first | done | rfl | (simp only [List.length_drop, List.length_take]; rfl)) ?_; (with_reducible refine (spec_l3Axis.calls k _ _ l0_0 _ _ l0_1 a0_2 a0_3 a1 true _ ?side1 ?side2 ?side3 ?side4 A9.out).mono ?_); (case side1 => repeat (first | exact (Kd.C_below HR0_0.out HB.out) | (with_reducible refine Kd.C_alloc ?_ _) | (with_reducible refine Kd.C_drewN ?_ _) | (with_reducible refine Kd.C_drew ?_))); (case side2 => exact HC0_0.out); (case side3 => repeat (first | exact (Kd.C_below HR0_1.out HB.out) | (with_reducible refine Kd.C_alloc ?_ _) | (with_reducible refine Kd.C_drewN ?_ _) | (with_reducible refine Kd.C_drew ?_))); (case side4 => exact HC0_1.out); rintro e w26 ⟨rfl, hb⟩; refine ⟨_, rfl, ?_⟩; have n0_ := Aside0.mk (blk_below (g := gb157) (o := .cells #[.slice A0_0 l0_0.length c0_0, .slice A0_1 l0_1.length c0_1, .int .i64 a0_2, .int .i64 a0_3] 26 (0, 0)) (by (with_reducible repeat (first | refine blk_drewN ?_ _ | refine blk_drew ?_ | refine blk_alloc ?_ _)); exact BK157.out) hb); have n1_ := Aside0.mk (blk_below (g := gb158) (o := .cells #[.slice none 0 0, .slice none 0 0, .int .i64 0, .int .i64 0] 26 (0, 0)) (by (with_reducible repeat (first | refine blk_drewN ?_ _ | refine blk_drew ?_ | refine blk_alloc ?_ _)); exact BK158.out) hb); have n2_ := Aside0.mk (below_step (by repeat (first | (with_reducible first | exact HB.out | apply below_alloc | apply pw_below_drewN | apply below_drew1 | refine below_set ?_ GE157.out | refine below_set ?_ GE158.out) | exact HB.out)) hb); clear BK157; clear BK158; clear HB; have BK157 := n0_; have BK158 := n1_; have HB := n2_; clear n0_ n1_ n2_; (try clear hb); (try clear hb2); (try clear hk); (try clear hi)))
              go_meet
              case rel => exact ⟨_, (true), (by first | rfl | (simp; done) | (simp [*]; done)), H', ⟨by first | omega | exact Nat.le_refl _⟩, ⟨by (with_reducible repeat (first | refine blk_drewN ?_ _ | refine blk_drew ?_ | refine blk_alloc ?_ _)); exact BK157.out⟩, ⟨by (with_reducible repeat (first | refine blk_drewN ?_ _ | refine blk_drew ?_ | refine blk_alloc ?_ _)); exact BK158.out⟩, ⟨by repeat (first | (with_reducible first | exact HB.out | apply below_alloc | apply pw_below_drewN | apply below_drew1 | refine below_set ?_ GE157.out | refine below_set ?_ GE158.out) | exact HB.out)⟩⟩
            · rw [if_neg c23] at H
              have c23b0 : decide (4096 < a4) = false := decide_eq_false c23
              clear c23
              by_cases c27 : a2 < 0
              · rw [if_pos c27] at H
                have c27b0 : decide (a2 < 0) = true := decide_eq_true c27
                clear c27
                have H' := Aside0.mk H
                clear H
                have hnb28 := NB157_158.out
                have hnc28 := NB158_157.out
                have hcz29_0 : w8.cell? ⟨gb157, 0, none⟩ = some (.slice A0_0 l0_0.length c0_0) := (blk_cell BK157.out 0).trans rfl
                have hcz29_1 : w8.cell? ⟨gb157, 1, none⟩ = some (.slice A0_1 l0_1.length c0_1) := (blk_cell BK157.out 1).trans rfl
                have hcz29_2 : w8.cell? ⟨gb157, 2, none⟩ = some (.int .i64 a0_2) := (blk_cell BK157.out 2).trans rfl
                have hcz29_3 : w8.cell? ⟨gb157, 3, none⟩ = some (.int .i64 a0_3) := (blk_cell BK157.out 3).trans rfl
                have hfz29_0 := blk_frozen BK157.out 0
                have hfz29_1 := blk_frozen BK157.out 1
                have hfz29_2 := blk_frozen BK157.out 2
                have hfz29_3 := blk_frozen BK157.out 3
                go_wp2_with (first | ((with_reducible refine gate_callee (f := 35) rfl ?_); refine goesL_ (some 15) rfl rfl Try.func35 (by kernel_rfl) rfl #[.agg #[.slice A0_0 l0_0.length c0_0, .slice A0_1 l0_1.length c0_1, .int .i64 a0_2, .int .i64 a0_3], .int .i64 a1] rfl (by (try simp only [List.map_toArray, List.map_cons, List.map_nil]); first | done | rfl | (simp only [List.length_drop, List.length_take]; rfl)) ?_; (with_reducible refine (spec_l3Axis.calls k _ _ l0_0 _ _ l0_1 a0_2 a0_3 a1 true _ ?side1 ?side2 ?side3 ?side4 A9.out).mono ?_); (case side1 => repeat (first | exact (Kd.C_below HR0_0.out HB.out) | (with_reducible refine Kd.C_alloc ?_ _) | (with_reducible refine Kd.C_drewN ?_ _) | (with_reducible refine Kd.C_drew ?_))); (case side2 => exact HC0_0.out); (case side3 => repeat (first | exact (Kd.C_below HR0_1.out HB.out) | (with_reducible refine Kd.C_alloc ?_ _) | (with_reducible refine Kd.C_drewN ?_ _) | (with_reducible refine Kd.C_drew ?_))); (case side4 => exact HC0_1.out); rintro e w30 ⟨rfl, hb⟩; refine ⟨_, rfl, ?_⟩; have n0_ := Aside0.mk (blk_below (g := gb157) (o := .cells #[.slice A0_0 l0_0.length c0_0, .slice A0_1 l0_1.length c0_1, .int .i64 a0_2, .int .i64 a0_3] 26 (0, 0)) (by (with_reducible repeat (first | refine blk_drewN ?_ _ | refine blk_drew ?_ | refine blk_alloc ?_ _)); exact BK157.out) hb); have n1_ := Aside0.mk (blk_below (g := gb158) (o := .cells #[.slice none 0 0, .slice none 0 0, .int .i64 0, .int .i64 0] 26 (0, 0)) (by (with_reducible repeat (first | refine blk_drewN ?_ _ | refine blk_drew ?_ | refine blk_alloc ?_ _)); exact BK158.out) hb); have n2_ := Aside0.mk (below_step (by repeat (first | (with_reducible first | exact HB.out | apply below_alloc | apply pw_below_drewN | apply below_drew1 | refine below_set ?_ GE157.out | refine below_set ?_ GE158.out) | exact HB.out)) hb); clear BK157; clear BK158; clear HB; have BK157 := n0_; have BK158 := n1_; have HB := n2_; clear n0_ n1_ n2_; (try clear hb); (try clear hb2); (try clear hk); (try clear hi)))
                go_meet
                case rel => exact ⟨_, (true), (by first | rfl | (simp; done) | (simp [*]; done)), H', ⟨by first | omega | exact Nat.le_refl _⟩, ⟨by (with_reducible repeat (first | refine blk_drewN ?_ _ | refine blk_drew ?_ | refine blk_alloc ?_ _)); exact BK157.out⟩, ⟨by (with_reducible repeat (first | refine blk_drewN ?_ _ | refine blk_drew ?_ | refine blk_alloc ?_ _)); exact BK158.out⟩, ⟨by repeat (first | (with_reducible first | exact HB.out | apply below_alloc | apply pw_below_drewN | apply below_drew1 | refine below_set ?_ GE157.out | refine below_set ?_ GE158.out) | exact HB.out)⟩⟩
              · rw [if_neg c27] at H
                have c27b0 : decide (a2 < 0) = false := decide_eq_false c27
                clear c27
                by_cases c31 : 0 ≤ a1
                · rw [if_pos c31] at H
                  have c31b0 : decide (0 ≤ a1) = true := decide_eq_true c31
                  clear c31
                  by_cases c32 : a1 < (l0_0.length : Int)
                  · rw [if_pos c32] at H
                    have c32b0 : decide (a1 < (l0_0.length : Int)) = true := decide_eq_true c32
                    clear c32
                    have H' := Aside0.mk H
                    clear H
                    have hnb33 := NB157_158.out
                    have hnc33 := NB158_157.out
                    have hcz34_0 : w8.cell? ⟨gb157, 0, none⟩ = some (.slice A0_0 l0_0.length c0_0) := (blk_cell BK157.out 0).trans rfl
                    have hcz34_1 : w8.cell? ⟨gb157, 1, none⟩ = some (.slice A0_1 l0_1.length c0_1) := (blk_cell BK157.out 1).trans rfl
                    have hcz34_2 : w8.cell? ⟨gb157, 2, none⟩ = some (.int .i64 a0_2) := (blk_cell BK157.out 2).trans rfl
                    have hcz34_3 : w8.cell? ⟨gb157, 3, none⟩ = some (.int .i64 a0_3) := (blk_cell BK157.out 3).trans rfl
                    have hfz34_0 := blk_frozen BK157.out 0
                    have hfz34_1 := blk_frozen BK157.out 1
                    have hfz34_2 := blk_frozen BK157.out 2
                    have hfz34_3 := blk_frozen BK157.out 3
                    go_wp2_with (first | ((with_reducible refine gate_callee (f := 35) rfl ?_); refine goesL_ (some 15) rfl rfl Try.func35 (by kernel_rfl) rfl #[.agg #[.slice A0_0 l0_0.length c0_0, .slice A0_1 l0_1.length c0_1, .int .i64 a0_2, .int .i64 a0_3], .int .i64 a1] rfl (by (try simp only [List.map_toArray, List.map_cons, List.map_nil]); first | done | rfl | (simp only [List.length_drop, List.length_take]; rfl)) ?_; (with_reducible refine (spec_l3Axis.calls k _ _ l0_0 _ _ l0_1 a0_2 a0_3 a1 true _ ?side1 ?side2 ?side3 ?side4 A9.out).mono ?_); (case side1 => repeat (first | exact (Kd.C_below HR0_0.out HB.out) | (with_reducible refine Kd.C_alloc ?_ _) | (with_reducible refine Kd.C_drewN ?_ _) | (with_reducible refine Kd.C_drew ?_))); (case side2 => exact HC0_0.out); (case side3 => repeat (first | exact (Kd.C_below HR0_1.out HB.out) | (with_reducible refine Kd.C_alloc ?_ _) | (with_reducible refine Kd.C_drewN ?_ _) | (with_reducible refine Kd.C_drew ?_))); (case side4 => exact HC0_1.out); rintro e w35 ⟨rfl, hb⟩; refine ⟨_, rfl, ?_⟩; have n0_ := Aside0.mk (blk_below (g := gb157) (o := .cells #[.slice A0_0 l0_0.length c0_0, .slice A0_1 l0_1.length c0_1, .int .i64 a0_2, .int .i64 a0_3] 26 (0, 0)) (by (with_reducible repeat (first | refine blk_drewN ?_ _ | refine blk_drew ?_ | refine blk_alloc ?_ _)); exact BK157.out) hb); have n1_ := Aside0.mk (blk_below (g := gb158) (o := .cells #[.slice none 0 0, .slice none 0 0, .int .i64 0, .int .i64 0] 26 (0, 0)) (by (with_reducible repeat (first | refine blk_drewN ?_ _ | refine blk_drew ?_ | refine blk_alloc ?_ _)); exact BK158.out) hb); have n2_ := Aside0.mk (below_step (by repeat (first | (with_reducible first | exact HB.out | apply below_alloc | apply pw_below_drewN | apply below_drew1 | refine below_set ?_ GE157.out | refine below_set ?_ GE158.out) | exact HB.out)) hb); clear BK157; clear BK158; clear HB; have BK157 := n0_; have BK158 := n1_; have HB := n2_; clear n0_ n1_ n2_; (try clear hb); (try clear hb2); (try clear hk); (try clear hi); have hcz36_0 : w35.cell? ⟨gb157, 0, none⟩ = some (.slice A0_0 l0_0.length c0_0) := (blk_cell BK157.out 0).trans rfl; have hcz36_1 : w35.cell? ⟨gb157, 1, none⟩ = some (.slice A0_1 l0_1.length c0_1) := (blk_cell BK157.out 1).trans rfl; have hcz36_2 : w35.cell? ⟨gb157, 2, none⟩ = some (.int .i64 a0_2) := (blk_cell BK157.out 2).trans rfl; have hcz36_3 : w35.cell? ⟨gb157, 3, none⟩ = some (.int .i64 a0_3) := (blk_cell BK157.out 3).trans rfl; have hfz36_0 := blk_frozen BK157.out 0; have hfz36_1 := blk_frozen BK157.out 1; have hfz36_2 := blk_frozen BK157.out 2; have hfz36_3 := blk_frozen BK157.out 3; have p160 : 0 ≤ (a1 : Int) := of_decide_eq_true (by first | (with_reducible assumption) | assumption); have q160 : a1 < (l0_0.length : Int) := of_decide_eq_true (by first | (with_reducible assumption) | assumption); obtain ⟨ad160, e160, hx160_0⟩ := Kd.at_int HR0_0.out a1 p160 q160; cases e160; replace hx160_0 := (HB.out.cell (World.block_lt_of_cell? w _ hx160_0)).trans hx160_0; replace p160 := eq_true p160; replace q160 := eq_true q160))
                    go_meet
                    case rel => exact ⟨_, (decide (a2 ≥ (rd l0_0 a1))), (by first | rfl | (simp; done) | (simp [*]; done)), H', ⟨by first | omega | exact Nat.le_refl _⟩, ⟨by (with_reducible repeat (first | refine blk_drewN ?_ _ | refine blk_drew ?_ | refine blk_alloc ?_ _)); exact BK157.out⟩, ⟨by (with_reducible repeat (first | refine blk_drewN ?_ _ | refine blk_drew ?_ | refine blk_alloc ?_ _)); exact BK158.out⟩, ⟨by repeat (first | (with_reducible first | exact HB.out | apply below_alloc | apply pw_below_drewN | apply below_drew1 | refine below_set ?_ GE157.out | refine below_set ?_ GE158.out) | exact HB.out)⟩⟩
                  · rw [if_neg c32] at H
                    exact absurd H (by simp)
                · rw [if_neg c31] at H
                  exact absurd H (by simp)
    · replace c10 := Bool.eq_false_iff.mpr c10
      subst c10
      have H1 : (spec_Slice.j0 k a1 a2 a3 a4 true l0_0 l0_1 a0_2 a0_3) = some (r1, r2, r3, r4) := by rw [if_neg (show ¬ (false = true) by decide)] at H; exact H
      clear H
      have H := H1
      clear H1
      have H' := Aside0.mk H
      clear H
      have hnb37 := NB157_158.out
      have hnc37 := NB158_157.out
      have hcz38_0 : w8.cell? ⟨gb157, 0, none⟩ = some (.slice A0_0 l0_0.length c0_0) := (blk_cell BK157.out 0).trans rfl
      have hcz38_1 : w8.cell? ⟨gb157, 1, none⟩ = some (.slice A0_1 l0_1.length c0_1) := (blk_cell BK157.out 1).trans rfl
      have hcz38_2 : w8.cell? ⟨gb157, 2, none⟩ = some (.int .i64 a0_2) := (blk_cell BK157.out 2).trans rfl
      have hcz38_3 : w8.cell? ⟨gb157, 3, none⟩ = some (.int .i64 a0_3) := (blk_cell BK157.out 3).trans rfl
      have hfz38_0 := blk_frozen BK157.out 0
      have hfz38_1 := blk_frozen BK157.out 1
      have hfz38_2 := blk_frozen BK157.out 2
      have hfz38_3 := blk_frozen BK157.out 3
      go_wp2_with (first | ((with_reducible refine gate_callee (f := 35) rfl ?_); refine goesL_ (some 15) rfl rfl Try.func35 (by kernel_rfl) rfl #[.agg #[.slice A0_0 l0_0.length c0_0, .slice A0_1 l0_1.length c0_1, .int .i64 a0_2, .int .i64 a0_3], .int .i64 a1] rfl (by (try simp only [List.map_toArray, List.map_cons, List.map_nil]); first | done | rfl | (simp only [List.length_drop, List.length_take]; rfl)) ?_; (with_reducible refine (spec_l3Axis.calls k _ _ l0_0 _ _ l0_1 a0_2 a0_3 a1 false _ ?side1 ?side2 ?side3 ?side4 A9.out).mono ?_); (case side1 => repeat (first | exact (Kd.C_below HR0_0.out HB.out) | (with_reducible refine Kd.C_alloc ?_ _) | (with_reducible refine Kd.C_drewN ?_ _) | (with_reducible refine Kd.C_drew ?_))); (case side2 => exact HC0_0.out); (case side3 => repeat (first | exact (Kd.C_below HR0_1.out HB.out) | (with_reducible refine Kd.C_alloc ?_ _) | (with_reducible refine Kd.C_drewN ?_ _) | (with_reducible refine Kd.C_drew ?_))); (case side4 => exact HC0_1.out); rintro e w39 ⟨rfl, hb⟩; refine ⟨_, rfl, ?_⟩; have n0_ := Aside0.mk (blk_below (g := gb157) (o := .cells #[.slice A0_0 l0_0.length c0_0, .slice A0_1 l0_1.length c0_1, .int .i64 a0_2, .int .i64 a0_3] 26 (0, 0)) (by (with_reducible repeat (first | refine blk_drewN ?_ _ | refine blk_drew ?_ | refine blk_alloc ?_ _)); exact BK157.out) hb); have n1_ := Aside0.mk (blk_below (g := gb158) (o := .cells #[.slice none 0 0, .slice none 0 0, .int .i64 0, .int .i64 0] 26 (0, 0)) (by (with_reducible repeat (first | refine blk_drewN ?_ _ | refine blk_drew ?_ | refine blk_alloc ?_ _)); exact BK158.out) hb); have n2_ := Aside0.mk (below_step (by repeat (first | (with_reducible first | exact HB.out | apply below_alloc | apply pw_below_drewN | apply below_drew1 | refine below_set ?_ GE157.out | refine below_set ?_ GE158.out) | exact HB.out)) hb); clear BK157; clear BK158; clear HB; have BK157 := n0_; have BK158 := n1_; have HB := n2_; clear n0_ n1_ n2_; (try clear hb); (try clear hb2); (try clear hk); (try clear hi)))
      go_meet
      case rel => exact ⟨_, (true), (by first | rfl | (simp; done) | (simp [*]; done)), H', ⟨by first | omega | exact Nat.le_refl _⟩, ⟨by (with_reducible repeat (first | refine blk_drewN ?_ _ | refine blk_drew ?_ | refine blk_alloc ?_ _)); exact BK157.out⟩, ⟨by (with_reducible repeat (first | refine blk_drewN ?_ _ | refine blk_drew ?_ | refine blk_alloc ?_ _)); exact BK158.out⟩, ⟨by repeat (first | (with_reducible first | exact HB.out | apply below_alloc | apply pw_below_drewN | apply below_drew1 | refine below_set ?_ GE157.out | refine below_set ?_ GE158.out) | exact HB.out)⟩⟩
  case rest =>
    clear HC6
    try clear c1
    try clear p1
    try clear q1
    try clear hx1
    try clear c2
    try clear p2
    try clear c3
    try clear c10
    try clear c11
    try clear c11b0
    try clear c12
    try clear c15
    try clear c15b0
    try clear c16
    try clear p16
    try clear q16
    try clear hx16
    try clear c19
    try clear c19b0
    try clear c20
    try clear c23
    try clear c23b0
    try clear c24
    try clear c27
    try clear c27b0
    try clear c28
    try clear c31
    try clear c31b0
    try clear c32
    try clear c32b0
    try clear c33
    try clear c35
    try clear c37
    try clear hcz13_0
    try clear hcz13_1
    try clear hcz13_2
    try clear hcz13_3
    try clear hcz17_0
    try clear hcz17_1
    try clear hcz17_2
    try clear hcz17_3
    try clear hcz21_0
    try clear hcz21_1
    try clear hcz21_2
    try clear hcz21_3
    try clear hcz25_0
    try clear hcz25_1
    try clear hcz25_2
    try clear hcz25_3
    try clear hcz29_0
    try clear hcz29_1
    try clear hcz29_2
    try clear hcz29_3
    try clear hcz34_0
    try clear hcz34_1
    try clear hcz34_2
    try clear hcz34_3
    try clear hcz36_0
    try clear hcz36_1
    try clear hcz36_2
    try clear hcz36_3
    try clear hcz38_0
    try clear hcz38_1
    try clear hcz38_2
    try clear hcz38_3
    try clear hfz13_0
    try clear hfz13_1
    try clear hfz13_2
    try clear hfz13_3
    try clear hfz17_0
    try clear hfz17_1
    try clear hfz17_2
    try clear hfz17_3
    try clear hfz21_0
    try clear hfz21_1
    try clear hfz21_2
    try clear hfz21_3
    try clear hfz25_0
    try clear hfz25_1
    try clear hfz25_2
    try clear hfz25_3
    try clear hfz29_0
    try clear hfz29_1
    try clear hfz29_2
    try clear hfz29_3
    try clear hfz34_0
    try clear hfz34_1
    try clear hfz34_2
    try clear hfz34_3
    try clear hfz36_0
    try clear hfz36_1
    try clear hfz36_2
    try clear hfz36_3
    try clear hfz38_0
    try clear hfz38_1
    try clear hfz38_2
    try clear hfz38_3
    try clear hx160_0
    try clear p160
    try clear q160
    obtain ⟨kq, x45_5, rfl, HA, HJ5, BK157, BK158, HB⟩ := hcut
    cases kq with
    | zero => exact absurd HA.out (by simp [spec_Slice.j0])
    | succ kj5 =>
      have H := HA.out
      clear HA
      simp only [spec_Slice.j0] at H
      by_cases c40 : x45_5 = true
      · subst c40
        have H1 : (some (([] : List Int), ([] : List Int), 0, 0)) = some (r1, r2, r3, r4) := by rw [if_pos rfl] at H; exact H
        clear H
        have H := H1
        clear H1
        simp only [Option.some.injEq, Prod.mk.injEq] at H
        obtain ⟨rfl, rfl, rfl, rfl⟩ := H
        have hnb41 := NB158_157.out
        have hnc41 := NB157_158.out
        have hcz42_0 : wc.cell? ⟨gb158, 0, none⟩ = some (.slice none 0 0) := (blk_cell BK158.out 0).trans rfl
        have hcz42_1 : wc.cell? ⟨gb158, 1, none⟩ = some (.slice none 0 0) := (blk_cell BK158.out 1).trans rfl
        have hcz42_2 : wc.cell? ⟨gb158, 2, none⟩ = some (.int .i64 0) := (blk_cell BK158.out 2).trans rfl
        have hcz42_3 : wc.cell? ⟨gb158, 3, none⟩ = some (.int .i64 0) := (blk_cell BK158.out 3).trans rfl
        have hfz42_0 := blk_frozen BK158.out 0
        have hfz42_1 := blk_frozen BK158.out 1
        have hfz42_2 := blk_frozen BK158.out 2
        have hfz42_3 := blk_frozen BK158.out 3
        go_wp2
        refine bodyPost_ret (results_cell_row rfl _ _ gb158 26 #[.slice none 0 0, .slice none 0 0, .int .i64 0, .int .i64 0] (0, 0) _ rfl (by (with_reducible repeat (first | refine blk_drewN ?_ _ | refine blk_drew ?_ | refine blk_alloc ?_ _)); refine blk_put (cs := #[.slice none 0 0, .slice none 0 0, .int .i64 0, .int .i64 0]) ?_ 3 _ rfl; (with_reducible repeat (first | refine blk_drewN ?_ _ | refine blk_drew ?_ | refine blk_alloc ?_ _)); refine blk_put (cs := #[.slice none 0 0, .slice none 0 0, .int .i64 0, .int .i64 0]) ?_ 2 _ rfl; (with_reducible repeat (first | refine blk_drewN ?_ _ | refine blk_drew ?_ | refine blk_alloc ?_ _)); refine blk_put (cs := #[.slice none 0 0, .slice none 0 0, .int .i64 0, .int .i64 0]) ?_ 1 _ rfl; (with_reducible repeat (first | refine blk_drewN ?_ _ | refine blk_drew ?_ | refine blk_alloc ?_ _)); refine blk_put (cs := #[.slice none 0 0, .slice none 0 0, .int .i64 0, .int .i64 0]) ?_ 0 _ rfl; (with_reducible repeat (first | refine blk_drewN ?_ _ | refine blk_drew ?_ | refine blk_alloc ?_ _)); exact BK158.out) Try.underlying26 rfl (by kernel_rfl)) rfl ?_
        exact ⟨_, _, by first | rfl | (simp [errW_none, errW_some] <;> rfl) | (simp [*, errW_none, errW_some] <;> rfl), Kd.V_nil _ _ _ _ _, Kd.V_nil _ _ _ _ _, by repeat (first | (with_reducible first | exact HB.out | apply below_alloc | apply pw_below_drewN | apply below_drew1 | refine below_set ?_ GE157.out | refine below_set ?_ GE158.out) | exact HB.out)⟩
      · replace c40 := Bool.eq_false_iff.mpr c40
        subst c40
        have H1 : (if (wrap64 (a2 + (wrap64 ((wrap64 (a3 - 1)) * a4)))) < 0 then (spec_Slice.j1 kj5 a1 a2 a3 a4 true l0_0 l0_1 a0_2 a0_3) else (if 0 ≤ a1 then (if a1 < (l0_0.length : Int) then (spec_Slice.j1 kj5 a1 a2 a3 a4 (decide ((wrap64 (a2 + (wrap64 ((wrap64 (a3 - 1)) * a4)))) ≥ (rd l0_0 a1))) l0_0 l0_1 a0_2 a0_3) else (none)) else (none))) = some (r1, r2, r3, r4) := by rw [if_neg (show ¬ (false = true) by decide)] at H; exact H
        clear H
        have H := H1
        clear H1
        have HC43 := Aside0.mk H
        clear H
        go_upto_region 4 with (fail)
        go_cut [63] (fun v63 wc => ∃ (kq : Nat) (x63_42 : Bool), v63 = .bool x63_42 ∧ Aside0 (spec_Slice.j1 kq a1 a2 a3 a4 x63_42 l0_0 l0_1 a0_2 a0_3 = some (r1, r2, r3, r4)) ∧ Aside0 (kq ≤ kj5) ∧ Aside0 (wc.heap[gb157]? = some (.cells #[(.slice A0_0 l0_0.length c0_0), (.slice A0_1 l0_1.length c0_1), .int .i64 a0_2, .int .i64 a0_3] 26 (0, 0))) ∧ Aside0 (wc.heap[gb158]? = some (.cells #[(.slice none 0 0), (.slice none 0 0), .int .i64 0, .int .i64 0] 26 (0, 0))) ∧ Aside0 (Below w.heap.size w wc))
        case first =>
          have H := HC43.out
          clear HC43
          by_cases c44 : (wrap64 (a2 + (wrap64 ((wrap64 (a3 - 1)) * a4)))) < 0
          · rw [if_pos c44] at H
            have c44b0 : decide ((wrap64 (a2 + (wrap64 ((wrap64 (a3 - 1)) * a4)))) < 0) = true := decide_eq_true c44
            clear c44
            (first | rw [c44b0] | (simp only [i64_w, i32_w]; rw [c44b0]) | skip)
            have H' := Aside0.mk H
            clear H
            go_wp2
            go_meet
            case rel => exact ⟨_, (true), (by first | rfl | (simp; done) | (simp [*]; done)), H', ⟨by have := HJ5.out; first | omega | exact Nat.le_refl _⟩, ⟨by (with_reducible repeat (first | refine blk_drewN ?_ _ | refine blk_drew ?_ | refine blk_alloc ?_ _)); exact BK157.out⟩, ⟨by (with_reducible repeat (first | refine blk_drewN ?_ _ | refine blk_drew ?_ | refine blk_alloc ?_ _)); exact BK158.out⟩, ⟨by repeat (first | (with_reducible first | exact HB.out | apply below_alloc | apply pw_below_drewN | apply below_drew1 | refine below_set ?_ GE157.out | refine below_set ?_ GE158.out) | exact HB.out)⟩⟩
          · rw [if_neg c44] at H
            have c44b0 : decide ((wrap64 (a2 + (wrap64 ((wrap64 (a3 - 1)) * a4)))) < 0) = false := decide_eq_false c44
            clear c44
            (first | rw [c44b0] | (simp only [i64_w, i32_w]; rw [c44b0]) | skip)
            by_cases c45 : 0 ≤ a1
            · rw [if_pos c45] at H
              have c45b0 : decide (0 ≤ a1) = true := decide_eq_true c45
              clear c45
              by_cases c46 : a1 < (l0_0.length : Int)
              · rw [if_pos c46] at H
                have c46b0 : decide (a1 < (l0_0.length : Int)) = true := decide_eq_true c46
                clear c46
                have H' := Aside0.mk H
                clear H
                have hnb47 := NB157_158.out
                have hnc47 := NB158_157.out
                have hcz48_0 : wc.cell? ⟨gb157, 0, none⟩ = some (.slice A0_0 l0_0.length c0_0) := (blk_cell BK157.out 0).trans rfl
                have hcz48_1 : wc.cell? ⟨gb157, 1, none⟩ = some (.slice A0_1 l0_1.length c0_1) := (blk_cell BK157.out 1).trans rfl
                have hcz48_2 : wc.cell? ⟨gb157, 2, none⟩ = some (.int .i64 a0_2) := (blk_cell BK157.out 2).trans rfl
                have hcz48_3 : wc.cell? ⟨gb157, 3, none⟩ = some (.int .i64 a0_3) := (blk_cell BK157.out 3).trans rfl
                have hfz48_0 := blk_frozen BK157.out 0
                have hfz48_1 := blk_frozen BK157.out 1
                have hfz48_2 := blk_frozen BK157.out 2
                have hfz48_3 := blk_frozen BK157.out 3
                have p161 : 0 ≤ (a1 : Int) := of_decide_eq_true (by first | (with_reducible assumption) | assumption)
                have q161 : a1 < (l0_0.length : Int) := of_decide_eq_true (by first | (with_reducible assumption) | assumption)
                obtain ⟨ad161, e161, hx161_0⟩ := Kd.at_int HR0_0.out a1 p161 q161
                cases e161
                replace hx161_0 := (HB.out.cell (World.block_lt_of_cell? w _ hx161_0)).trans hx161_0
                replace p161 := eq_true p161
                replace q161 := eq_true q161
                go_wp2
                go_meet
                case rel => exact ⟨_, (decide ((wrap64 (a2 + (wrap64 ((wrap64 (a3 - 1)) * a4)))) ≥ (rd l0_0 a1))), (by first | rfl | (simp; done) | (simp [*]; done)), H', ⟨by have := HJ5.out; first | omega | exact Nat.le_refl _⟩, ⟨by (with_reducible repeat (first | refine blk_drewN ?_ _ | refine blk_drew ?_ | refine blk_alloc ?_ _)); exact BK157.out⟩, ⟨by (with_reducible repeat (first | refine blk_drewN ?_ _ | refine blk_drew ?_ | refine blk_alloc ?_ _)); exact BK158.out⟩, ⟨by repeat (first | (with_reducible first | exact HB.out | apply below_alloc | apply pw_below_drewN | apply below_drew1 | refine below_set ?_ GE157.out | refine below_set ?_ GE158.out) | exact HB.out)⟩⟩
              · rw [if_neg c46] at H
                exact absurd H (by simp)
            · rw [if_neg c45] at H
              exact absurd H (by simp)
        case rest =>
          clear HC43
          try clear c1
          try clear p1
          try clear q1
          try clear hx1
          try clear c2
          try clear p2
          try clear c3
          try clear c4
          try clear p6
          try clear c10
          try clear c11
          try clear c11b0
          try clear c12
          try clear c15
          try clear c15b0
          try clear c16
          try clear p16
          try clear q16
          try clear hx16
          try clear c19
          try clear c19b0
          try clear c20
          try clear c23
          try clear c23b0
          try clear c24
          try clear c27
          try clear c27b0
          try clear c28
          try clear c31
          try clear c31b0
          try clear c32
          try clear c32b0
          try clear c33
          try clear c35
          try clear c37
          try clear c40
          try clear c41
          try clear c44
          try clear c44b0
          try clear c45
          try clear c45b0
          try clear c46
          try clear c46b0
          try clear c47
          try clear hcz13_0
          try clear hcz13_1
          try clear hcz13_2
          try clear hcz13_3
          try clear hcz17_0
          try clear hcz17_1
          try clear hcz17_2
          try clear hcz17_3
          try clear hcz21_0
          try clear hcz21_1
          try clear hcz21_2
          try clear hcz21_3
          try clear hcz25_0
          try clear hcz25_1
          try clear hcz25_2
          try clear hcz25_3
          try clear hcz29_0
          try clear hcz29_1
          try clear hcz29_2
          try clear hcz29_3
          try clear hcz34_0
          try clear hcz34_1
          try clear hcz34_2
          try clear hcz34_3
          try clear hcz36_0
          try clear hcz36_1
          try clear hcz36_2
          try clear hcz36_3
          try clear hcz38_0
          try clear hcz38_1
          try clear hcz38_2
          try clear hcz38_3
          try clear hcz42_0
          try clear hcz42_1
          try clear hcz42_2
          try clear hcz42_3
          try clear hcz48_0
          try clear hcz48_1
          try clear hcz48_2
          try clear hcz48_3
          try clear hfz13_0
          try clear hfz13_1
          try clear hfz13_2
          try clear hfz13_3
          try clear hfz17_0
          try clear hfz17_1
          try clear hfz17_2
          try clear hfz17_3
          try clear hfz21_0
          try clear hfz21_1
          try clear hfz21_2
          try clear hfz21_3
          try clear hfz25_0
          try clear hfz25_1
          try clear hfz25_2
          try clear hfz25_3
          try clear hfz29_0
          try clear hfz29_1
          try clear hfz29_2
          try clear hfz29_3
          try clear hfz34_0
          try clear hfz34_1
          try clear hfz34_2
          try clear hfz34_3
          try clear hfz36_0
          try clear hfz36_1
          try clear hfz36_2
          try clear hfz36_3
          try clear hfz38_0
          try clear hfz38_1
          try clear hfz38_2
          try clear hfz38_3
          try clear hfz42_0
          try clear hfz42_1
          try clear hfz42_2
          try clear hfz42_3
          try clear hfz48_0
          try clear hfz48_1
          try clear hfz48_2
          try clear hfz48_3
          try clear hx160_0
          try clear hx161_0
          try clear p1
          try clear p16
          try clear p160
          try clear p161
          try clear p2
          try clear q1
          try clear q16
          try clear q160
          try clear q161
          obtain ⟨kq, x63_42, rfl, HA, HJ42, BK157, BK158, HB⟩ := hcut
          cases kq with
          | zero => exact absurd HA.out (by simp [spec_Slice.j1])
          | succ kj42 =>
            have H := HA.out
            clear HA
            simp only [spec_Slice.j1] at H
            by_cases c49 : x63_42 = true
            · subst c49
              have H1 : (some (([] : List Int), ([] : List Int), 0, 0)) = some (r1, r2, r3, r4) := by rw [if_pos rfl] at H; exact H
              clear H
              have H := H1
              clear H1
              simp only [Option.some.injEq, Prod.mk.injEq] at H
              obtain ⟨rfl, rfl, rfl, rfl⟩ := H
              have hnb50 := NB158_157.out
              have hnc50 := NB157_158.out
              have hcz51_0 : wc.cell? ⟨gb158, 0, none⟩ = some (.slice none 0 0) := (blk_cell BK158.out 0).trans rfl
              have hcz51_1 : wc.cell? ⟨gb158, 1, none⟩ = some (.slice none 0 0) := (blk_cell BK158.out 1).trans rfl
              have hcz51_2 : wc.cell? ⟨gb158, 2, none⟩ = some (.int .i64 0) := (blk_cell BK158.out 2).trans rfl
              have hcz51_3 : wc.cell? ⟨gb158, 3, none⟩ = some (.int .i64 0) := (blk_cell BK158.out 3).trans rfl
              have hfz51_0 := blk_frozen BK158.out 0
              have hfz51_1 := blk_frozen BK158.out 1
              have hfz51_2 := blk_frozen BK158.out 2
              have hfz51_3 := blk_frozen BK158.out 3
              go_wp2
              refine bodyPost_ret (results_cell_row rfl _ _ gb158 26 #[.slice none 0 0, .slice none 0 0, .int .i64 0, .int .i64 0] (0, 0) _ rfl (by (with_reducible repeat (first | refine blk_drewN ?_ _ | refine blk_drew ?_ | refine blk_alloc ?_ _)); refine blk_put (cs := #[.slice none 0 0, .slice none 0 0, .int .i64 0, .int .i64 0]) ?_ 3 _ rfl; (with_reducible repeat (first | refine blk_drewN ?_ _ | refine blk_drew ?_ | refine blk_alloc ?_ _)); refine blk_put (cs := #[.slice none 0 0, .slice none 0 0, .int .i64 0, .int .i64 0]) ?_ 2 _ rfl; (with_reducible repeat (first | refine blk_drewN ?_ _ | refine blk_drew ?_ | refine blk_alloc ?_ _)); refine blk_put (cs := #[.slice none 0 0, .slice none 0 0, .int .i64 0, .int .i64 0]) ?_ 1 _ rfl; (with_reducible repeat (first | refine blk_drewN ?_ _ | refine blk_drew ?_ | refine blk_alloc ?_ _)); refine blk_put (cs := #[.slice none 0 0, .slice none 0 0, .int .i64 0, .int .i64 0]) ?_ 0 _ rfl; (with_reducible repeat (first | refine blk_drewN ?_ _ | refine blk_drew ?_ | refine blk_alloc ?_ _)); exact BK158.out) Try.underlying26 rfl (by kernel_rfl)) rfl ?_
              exact ⟨_, _, by first | rfl | (simp [errW_none, errW_some] <;> rfl) | (simp [*, errW_none, errW_some] <;> rfl), Kd.V_nil _ _ _ _ _, Kd.V_nil _ _ _ _ _, by repeat (first | (with_reducible first | exact HB.out | apply below_alloc | apply pw_below_drewN | apply below_drew1 | refine below_set ?_ GE157.out | refine below_set ?_ GE158.out) | exact HB.out)⟩
            · replace c49 := Bool.eq_false_iff.mpr c49
              subst c49
              have H1 : ((spec_l3Copy.f l0_0 l0_1 a0_2 a0_3).bind fun bt162 => (if 0 ≤ a1 then (if a1 < (bt162.2.1.length : Int) then (if a1 < (bt162.1.length : Int) then ((some (bt162.1.set (a1 : Int).toNat a3 : List Int)).bind fun y172 => ((some (bt162.2.1.set (a1 : Int).toNat (wrap64 ((rd bt162.2.1 a1) * a4)) : List Int)).bind fun y174 => (if a3 = 1 then ((spec_l3Or.f kj42 y172 (y174.set (a1 : Int).toNat 0) (wrap64 (bt162.2.2.1 + (wrap64 (a2 * (rd bt162.2.1 a1))))) bt162.2.2.2).bind fun bt176 => (some (bt176.1, bt176.2.1, bt176.2.2.1, bt176.2.2.2))) else ((spec_l3Or.f kj42 y172 y174 (wrap64 (bt162.2.2.1 + (wrap64 (a2 * (rd bt162.2.1 a1))))) bt162.2.2.2).bind fun bt184 => (some (bt184.1, bt184.2.1, bt184.2.2.1, bt184.2.2.2)))))) else (none)) else (none)) else (none))) = some (r1, r2, r3, r4) := by rw [if_neg (show ¬ (false = true) by decide)] at H; exact H
              clear H
              have H := H1
              clear H1
              replace H := Option.bind_eq_some_iff.mp H
              obtain ⟨⟨t162, t165, t168, t169⟩, A520, H⟩ := H
              replace H : (if 0 ≤ a1 then (if a1 < (t165.length : Int) then (if a1 < (t162.length : Int) then ((some (t162.set (a1 : Int).toNat a3 : List Int)).bind fun y172 => ((some (t165.set (a1 : Int).toNat (wrap64 ((rd t165 a1) * a4)) : List Int)).bind fun y174 => (if a3 = 1 then ((spec_l3Or.f kj42 y172 (y174.set (a1 : Int).toNat 0) (wrap64 (t168 + (wrap64 (a2 * (rd t165 a1))))) t169).bind fun bt176 => (some (bt176.1, bt176.2.1, bt176.2.2.1, bt176.2.2.2))) else ((spec_l3Or.f kj42 y172 y174 (wrap64 (t168 + (wrap64 (a2 * (rd t165 a1))))) t169).bind fun bt184 => (some (bt184.1, bt184.2.1, bt184.2.2.1, bt184.2.2.2)))))) else (none)) else (none)) else (none)) = some (r1, r2, r3, r4) := H
              have A52 := Aside0.mk A520
              clear A520
              by_cases c53 : 0 ≤ a1
              · rw [if_pos c53] at H
                have c53b0 : decide (0 ≤ a1) = true := decide_eq_true c53
                clear c53
                by_cases c54 : a1 < (t165.length : Int)
                · rw [if_pos c54] at H
                  have c54b0 : decide (a1 < (t165.length : Int)) = true := decide_eq_true c54
                  clear c54
                  by_cases c55 : a1 < (t162.length : Int)
                  · rw [if_pos c55] at H
                    have c55b0 : decide (a1 < (t162.length : Int)) = true := decide_eq_true c55
                    clear c55
                    obtain ⟨y172, hy172⟩ : ∃ y_ : List Int, y_ = (t162.set (a1 : Int).toNat a3) := ⟨_, rfl⟩
                    replace H : ((some (t165.set (a1 : Int).toNat (wrap64 ((rd t165 a1) * a4)) : List Int)).bind fun y174 => (if a3 = 1 then ((spec_l3Or.f kj42 y172 (y174.set (a1 : Int).toNat 0) (wrap64 (t168 + (wrap64 (a2 * (rd t165 a1))))) t169).bind fun bt176 => (some (bt176.1, bt176.2.1, bt176.2.2.1, bt176.2.2.2))) else ((spec_l3Or.f kj42 y172 y174 (wrap64 (t168 + (wrap64 (a2 * (rd t165 a1))))) t169).bind fun bt184 => (some (bt184.1, bt184.2.1, bt184.2.2.1, bt184.2.2.2))))) = some (r1, r2, r3, r4) := by first | (rw [hy172]; with_reducible exact H) | (have H2_ := (Option.bind_some _ _).symm.trans H; rw [hy172]; with_reducible exact H2_) | (have H2_ := (Option.bind_some _ _).symm.trans H; with_reducible exact H2_) | with_reducible exact H | (rw [hy172]; exact H) | exact H
                    have Ny172 := Aside0.mk hy172
                    clear hy172
                    obtain ⟨y174, hy174⟩ : ∃ y_ : List Int, y_ = (t165.set (a1 : Int).toNat (wrap64 ((rd t165 a1) * a4))) := ⟨_, rfl⟩
                    replace H : (if a3 = 1 then ((spec_l3Or.f kj42 y172 (y174.set (a1 : Int).toNat 0) (wrap64 (t168 + (wrap64 (a2 * (rd t165 a1))))) t169).bind fun bt176 => (some (bt176.1, bt176.2.1, bt176.2.2.1, bt176.2.2.2))) else ((spec_l3Or.f kj42 y172 y174 (wrap64 (t168 + (wrap64 (a2 * (rd t165 a1))))) t169).bind fun bt184 => (some (bt184.1, bt184.2.1, bt184.2.2.1, bt184.2.2.2)))) = some (r1, r2, r3, r4) := by first | (rw [hy174]; with_reducible exact H) | (have H2_ := (Option.bind_some _ _).symm.trans H; rw [hy174]; with_reducible exact H2_) | (have H2_ := (Option.bind_some _ _).symm.trans H; with_reducible exact H2_) | with_reducible exact H | (rw [hy174]; exact H) | exact H
                    have Ny174 := Aside0.mk hy174
                    clear hy174
                    by_cases c58 : a3 = 1
                    · rw [if_pos c58] at H
                      have c58b0 : (a3 == 1) = true := beq_iff_eq.mpr c58
                      have c58b1 : (a3 != 1) = false := bne_eq_false_iff_eq.mpr c58
                      clear c58
                      obtain ⟨y175, hy175⟩ : ∃ y_ : List Int, y_ = (y174.set (a1 : Int).toNat 0) := ⟨_, rfl⟩
                      replace H : ((spec_l3Or.f kj42 y172 y175 (wrap64 (t168 + (wrap64 (a2 * (rd t165 a1))))) t169).bind fun bt176 => (some (bt176.1, bt176.2.1, bt176.2.2.1, bt176.2.2.2))) = some (r1, r2, r3, r4) := by first | (rw [hy175]; with_reducible exact H) | (have H2_ := (Option.bind_some _ _).symm.trans H; rw [hy175]; with_reducible exact H2_) | (have H2_ := (Option.bind_some _ _).symm.trans H; with_reducible exact H2_) | with_reducible exact H | (rw [hy175]; exact H) | exact H
                      have Ny175 := Aside0.mk hy175
                      clear hy175
                      replace H := Option.bind_eq_some_iff.mp H
                      obtain ⟨⟨t176, t179, t182, t183⟩, A600, H⟩ := H
                      replace H : (some (t176, t179, t182, t183)) = some (r1, r2, r3, r4) := H
                      have A60 := Aside0.mk A600
                      clear A600
                      simp only [Option.some.injEq, Prod.mk.injEq] at H
                      obtain ⟨rfl, rfl, rfl, rfl⟩ := H
                      have hnb61 := NB157_158.out
                      have hnc61 := NB158_157.out
                      have hcz62_0 : wc.cell? ⟨gb157, 0, none⟩ = some (.slice A0_0 l0_0.length c0_0) := (blk_cell BK157.out 0).trans rfl
                      have hcz62_1 : wc.cell? ⟨gb157, 1, none⟩ = some (.slice A0_1 l0_1.length c0_1) := (blk_cell BK157.out 1).trans rfl
                      have hcz62_2 : wc.cell? ⟨gb157, 2, none⟩ = some (.int .i64 a0_2) := (blk_cell BK157.out 2).trans rfl
                      have hcz62_3 : wc.cell? ⟨gb157, 3, none⟩ = some (.int .i64 a0_3) := (blk_cell BK157.out 3).trans rfl
                      have hfz62_0 := blk_frozen BK157.out 0
                      have hfz62_1 := blk_frozen BK157.out 1
                      have hfz62_2 := blk_frozen BK157.out 2
                      have hfz62_3 := blk_frozen BK157.out 3
                      try go_wp2_with (first | ((with_reducible refine gate_callee (f := 36) rfl ?_); refine goesL_ (some 66) rfl rfl Try.func36 (by kernel_rfl) rfl #[.agg #[.slice A0_0 l0_0.length c0_0, .slice A0_1 l0_1.length c0_1, .int .i64 a0_2, .int .i64 a0_3]] rfl (by (try simp only [List.map_toArray, List.map_cons, List.map_nil]); first | done | rfl | (simp only [List.length_drop, List.length_take]; rfl)) ?_; (with_reducible refine (spec_l3Copy.calls _ _ l0_0 _ _ l0_1 a0_2 a0_3 t162 t165 t168 t169 _ ?side1 ?side2 ?side3 ?side4 A52.out).mono ?_); (case side1 => repeat (first | exact (Kd.C_below HR0_0.out HB.out) | (with_reducible refine Kd.C_alloc ?_ _) | (with_reducible refine Kd.C_drewN ?_ _) | (with_reducible refine Kd.C_drew ?_))); (case side2 => exact HC0_0.out); (case side3 => repeat (first | exact (Kd.C_below HR0_1.out HB.out) | (with_reducible refine Kd.C_alloc ?_ _) | (with_reducible refine Kd.C_drewN ?_ _) | (with_reducible refine Kd.C_drew ?_))); (case side4 => exact HC0_1.out); rintro e w63 ⟨v163, v166, rfl, ho0, ho1, hb⟩; refine ⟨_, rfl, ?_⟩; have n0_ := Aside0.mk (Kd.R_lower (Kd.R_newM (M := fun k_ => (w.heap.size ≤ k_)) ho0 (below_size (by repeat (first | (with_reducible first | exact HB.out | apply below_alloc | apply pw_below_drewN | apply below_drew1 | refine below_set ?_ GE157.out | refine below_set ?_ GE158.out) | exact HB.out))) (fun k_ h_ => h_)) (below_size (by repeat (first | (with_reducible first | exact HB.out | apply below_alloc | apply pw_below_drewN | apply below_drew1 | refine below_set ?_ GE157.out | refine below_set ?_ GE158.out) | exact HB.out)))); have n1_ := Aside0.mk (Kd.R_lower (Kd.R_newM (M := fun k_ => (w.heap.size ≤ k_)) ho1 (below_size (by repeat (first | (with_reducible first | exact HB.out | apply below_alloc | apply pw_below_drewN | apply below_drew1 | refine below_set ?_ GE157.out | refine below_set ?_ GE158.out) | exact HB.out))) (fun k_ h_ => h_)) (below_size (by repeat (first | (with_reducible first | exact HB.out | apply below_alloc | apply pw_below_drewN | apply below_drew1 | refine below_set ?_ GE157.out | refine below_set ?_ GE158.out) | exact HB.out)))); have n2_ := Aside0.mk (blk_below (g := gb157) (o := .cells #[.slice A0_0 l0_0.length c0_0, .slice A0_1 l0_1.length c0_1, .int .i64 a0_2, .int .i64 a0_3] 26 (0, 0)) (by (with_reducible repeat (first | refine blk_drewN ?_ _ | refine blk_drew ?_ | refine blk_alloc ?_ _)); exact BK157.out) hb); have n3_ := Aside0.mk (blk_below (g := gb158) (o := .cells #[.slice none 0 0, .slice none 0 0, .int .i64 0, .int .i64 0] 26 (0, 0)) (by (with_reducible repeat (first | refine blk_drewN ?_ _ | refine blk_drew ?_ | refine blk_alloc ?_ _)); exact BK158.out) hb); have n4_ := Aside0.mk (below_step (by repeat (first | (with_reducible first | exact HB.out | apply below_alloc | apply pw_below_drewN | apply below_drew1 | refine below_set ?_ GE157.out | refine below_set ?_ GE158.out) | exact HB.out)) hb); clear BK157; clear BK158; clear HB; have HO164 := n0_; have HO167 := n1_; have BK157 := n2_; have BK158 := n3_; have HB := n4_; clear n0_ n1_ n2_ n3_ n4_; (try clear hb); (try clear hb2); (try clear hk); (try clear hi); (try clear ho0); (try clear ho1)) | ((with_reducible refine gate_dst (N := 12) rfl ?_); refine box_event ?hg (N := 12) ?hd (cs := #[.slice none 0 0, .slice none 0 0, .int .i64 0, .int .i64 0]) (t := 26) ?hr ?_; (case hd => rfl); (case hg => rfl); (case hr => first | (go_simp; done) | (go_simp; rfl)); intro gb170 hg w64 hbox hb; have n0_ := Aside0.mk (Kd.R_below (by (with_reducible repeat (first | apply Kd.R_alloc | apply Kd.R_drewN | apply Kd.R_drew)); exact HO164.out) hb); have n1_ := Aside0.mk (Kd.R_below (by (with_reducible repeat (first | apply Kd.R_alloc | apply Kd.R_drewN | apply Kd.R_drew)); exact HO167.out) hb); have n2_ := Aside0.mk (blk_below (g := gb157) (o := .cells #[.slice A0_0 l0_0.length c0_0, .slice A0_1 l0_1.length c0_1, .int .i64 a0_2, .int .i64 a0_3] 26 (0, 0)) (by (with_reducible repeat (first | refine blk_drewN ?_ _ | refine blk_drew ?_ | refine blk_alloc ?_ _)); exact BK157.out) hb); have n3_ := Aside0.mk (blk_below (g := gb158) (o := .cells #[.slice none 0 0, .slice none 0 0, .int .i64 0, .int .i64 0] 26 (0, 0)) (by (with_reducible repeat (first | refine blk_drewN ?_ _ | refine blk_drew ?_ | refine blk_alloc ?_ _)); exact BK158.out) hb); have n4_ := Aside0.mk (below_step (by repeat (first | (with_reducible first | exact HB.out | apply below_alloc | apply pw_below_drewN | apply below_drew1 | refine below_set ?_ GE157.out | refine below_set ?_ GE158.out) | exact HB.out)) hb); have n5_ := Aside0.mk (hbox); have n6_ := Aside0.mk ((by rw [hg]; exact (below_size (by repeat (first | (with_reducible first | exact HB.out | apply below_alloc | apply pw_below_drewN | apply below_drew1 | refine below_set ?_ GE157.out | refine below_set ?_ GE158.out) | exact HB.out))) : w.heap.size ≤ gb170)); have n7_ := Aside0.mk ((by rw [hg]; exact (below_size (by repeat (first | (with_reducible first | exact HB.out | apply below_alloc | apply pw_below_drewN | apply below_drew1 | refine below_set ?_ GE157.out | refine below_set ?_ GE158.out) | exact HB.out))) : w.heap.size ≤ gb170)); have n8_ := Aside0.mk ((by rw [hg]; exact Nat.ne_of_lt (blk_lt (g := gb157) (o := .cells #[.slice A0_0 l0_0.length c0_0, .slice A0_1 l0_1.length c0_1, .int .i64 a0_2, .int .i64 a0_3] 26 (0, 0)) (by (with_reducible repeat (first | refine blk_drewN ?_ _ | refine blk_drew ?_ | refine blk_alloc ?_ _)); exact BK157.out)) : gb157 ≠ gb170)); have n9_ := Aside0.mk ((by rw [hg]; exact Nat.ne_of_gt (blk_lt (g := gb157) (o := .cells #[.slice A0_0 l0_0.length c0_0, .slice A0_1 l0_1.length c0_1, .int .i64 a0_2, .int .i64 a0_3] 26 (0, 0)) (by (with_reducible repeat (first | refine blk_drewN ?_ _ | refine blk_drew ?_ | refine blk_alloc ?_ _)); exact BK157.out)) : gb170 ≠ gb157)); have n10_ := Aside0.mk ((by rw [hg]; exact Nat.ne_of_lt (blk_lt (g := gb158) (o := .cells #[.slice none 0 0, .slice none 0 0, .int .i64 0, .int .i64 0] 26 (0, 0)) (by (with_reducible repeat (first | refine blk_drewN ?_ _ | refine blk_drew ?_ | refine blk_alloc ?_ _)); exact BK158.out)) : gb158 ≠ gb170)); have n11_ := Aside0.mk ((by rw [hg]; exact Nat.ne_of_gt (blk_lt (g := gb158) (o := .cells #[.slice none 0 0, .slice none 0 0, .int .i64 0, .int .i64 0] 26 (0, 0)) (by (with_reducible repeat (first | refine blk_drewN ?_ _ | refine blk_drew ?_ | refine blk_alloc ?_ _)); exact BK158.out)) : gb170 ≠ gb158)); clear HO164; clear HO167; clear BK157; clear BK158; clear HB; have HO164 := n0_; have HO167 := n1_; have BK157 := n2_; have BK158 := n3_; have HB := n4_; have BK170 := n5_; have GW170 := n6_; have GE170 := n7_; have NB157_170 := n8_; have NB170_157 := n9_; have NB158_170 := n10_; have NB170_158 := n11_; clear n0_ n1_ n2_ n3_ n4_ n5_ n6_ n7_ n8_ n9_ n10_ n11_; clear hb hbox hg; obtain ⟨Ao65, co65, eo65⟩ := Kd.R_slice HO164.out; subst eo65; have hnb66 := NB170_157.out; have hnc66 := NB157_170.out; have hnb67 := NB170_158.out; have hnc67 := NB158_170.out; have hcz68_0 : w64.cell? ⟨gb170, 0, none⟩ = some (.slice none 0 0) := (blk_cell BK170.out 0).trans rfl; have hcz68_1 : w64.cell? ⟨gb170, 1, none⟩ = some (.slice none 0 0) := (blk_cell BK170.out 1).trans rfl; have hcz68_2 : w64.cell? ⟨gb170, 2, none⟩ = some (.int .i64 0) := (blk_cell BK170.out 2).trans rfl; have hcz68_3 : w64.cell? ⟨gb170, 3, none⟩ = some (.int .i64 0) := (blk_cell BK170.out 3).trans rfl; have hfz68_0 := blk_frozen BK170.out 0; have hfz68_1 := blk_frozen BK170.out 1; have hfz68_2 := blk_frozen BK170.out 2; have hfz68_3 := blk_frozen BK170.out 3; obtain ⟨Ao69, co69, eo69⟩ := Kd.R_slice HO167.out; subst eo69))
                      have n0_ : Aside0 (Kd.R (Kd.int .i64) 3 ((((w64.setCell ⟨gb170, 0, none⟩ (.slice Ao65 t162.length co65)).setCell ⟨gb170, 1, none⟩ (.slice Ao69 t165.length co69)).setCell ⟨gb170, 2, none⟩ (.int .i64 t168)).setCell ⟨gb170, 3, none⟩ (.int .i64 t169)) w.heap.size (fun k_ => (w.heap.size ≤ k_) ∧ some k_ ≠ (.slice Ao69 t165.length co69 : Value).ownBlock) (.slice Ao65 t162.length co65) t162) := ⟨by (with_reducible repeat (first | apply Kd.R_alloc | apply Kd.R_drewN | apply Kd.R_drew)); exact Kd.R_mono (Kd.R_far (p := ⟨gb170, 3, none⟩) (Kd.R_far (p := ⟨gb170, 2, none⟩) (Kd.R_far (p := ⟨gb170, 1, none⟩) (Kd.R_far (p := ⟨gb170, 0, none⟩) (Kd.R_types HO164.out BK170.out (by decide)) (fun _ hk => hk.2) (.slice Ao65 t162.length co65)) (fun _ hk => hk.2) (.slice Ao69 t165.length co69)) (fun _ hk => hk.2) (.int .i64 t168)) (fun _ hk => hk.2) (.int .i64 t169)) (fun _ hk => ⟨hk.1.1, hk.1.2⟩)⟩
                      have n1_ : Aside0 (Kd.R (Kd.int .i64) 3 ((((w64.setCell ⟨gb170, 0, none⟩ (.slice Ao65 t162.length co65)).setCell ⟨gb170, 1, none⟩ (.slice Ao69 t165.length co69)).setCell ⟨gb170, 2, none⟩ (.int .i64 t168)).setCell ⟨gb170, 3, none⟩ (.int .i64 t169)) w.heap.size (fun k_ => (w.heap.size ≤ k_) ∧ some k_ ≠ (.slice Ao65 t162.length co65 : Value).ownBlock) (.slice Ao69 t165.length co69) t165) := ⟨by (with_reducible repeat (first | apply Kd.R_alloc | apply Kd.R_drewN | apply Kd.R_drew)); exact Kd.R_mono (Kd.R_far (p := ⟨gb170, 3, none⟩) (Kd.R_far (p := ⟨gb170, 2, none⟩) (Kd.R_far (p := ⟨gb170, 1, none⟩) (Kd.R_far (p := ⟨gb170, 0, none⟩) (Kd.R_types HO167.out BK170.out (by decide)) (fun _ hk => hk.2) (.slice Ao65 t162.length co65)) (fun _ hk => hk.2) (.slice Ao69 t165.length co69)) (fun _ hk => hk.2) (.int .i64 t168)) (fun _ hk => hk.2) (.int .i64 t169)) (fun _ hk => ⟨hk.1.1, hk.1.2⟩)⟩
                      have n2_ : Aside0 (((((w64.setCell ⟨gb170, 0, none⟩ (.slice Ao65 t162.length co65)).setCell ⟨gb170, 1, none⟩ (.slice Ao69 t165.length co69)).setCell ⟨gb170, 2, none⟩ (.int .i64 t168)).setCell ⟨gb170, 3, none⟩ (.int .i64 t169)).heap[gb157]? = some (.cells #[.slice A0_0 l0_0.length c0_0, .slice A0_1 l0_1.length c0_1, .int .i64 a0_2, .int .i64 a0_3] 26 (0, 0))) := ⟨by (with_reducible repeat (first | refine blk_drewN ?_ _ | refine blk_drew ?_ | refine blk_alloc ?_ _)); refine blk_far ?_ NB157_170.out _; (with_reducible repeat (first | refine blk_drewN ?_ _ | refine blk_drew ?_ | refine blk_alloc ?_ _)); refine blk_far ?_ NB157_170.out _; (with_reducible repeat (first | refine blk_drewN ?_ _ | refine blk_drew ?_ | refine blk_alloc ?_ _)); refine blk_far ?_ NB157_170.out _; (with_reducible repeat (first | refine blk_drewN ?_ _ | refine blk_drew ?_ | refine blk_alloc ?_ _)); refine blk_far ?_ NB157_170.out _; (with_reducible repeat (first | refine blk_drewN ?_ _ | refine blk_drew ?_ | refine blk_alloc ?_ _)); exact BK157.out⟩
                      have n3_ : Aside0 (((((w64.setCell ⟨gb170, 0, none⟩ (.slice Ao65 t162.length co65)).setCell ⟨gb170, 1, none⟩ (.slice Ao69 t165.length co69)).setCell ⟨gb170, 2, none⟩ (.int .i64 t168)).setCell ⟨gb170, 3, none⟩ (.int .i64 t169)).heap[gb158]? = some (.cells #[.slice none 0 0, .slice none 0 0, .int .i64 0, .int .i64 0] 26 (0, 0))) := ⟨by (with_reducible repeat (first | refine blk_drewN ?_ _ | refine blk_drew ?_ | refine blk_alloc ?_ _)); refine blk_far ?_ NB158_170.out _; (with_reducible repeat (first | refine blk_drewN ?_ _ | refine blk_drew ?_ | refine blk_alloc ?_ _)); refine blk_far ?_ NB158_170.out _; (with_reducible repeat (first | refine blk_drewN ?_ _ | refine blk_drew ?_ | refine blk_alloc ?_ _)); refine blk_far ?_ NB158_170.out _; (with_reducible repeat (first | refine blk_drewN ?_ _ | refine blk_drew ?_ | refine blk_alloc ?_ _)); refine blk_far ?_ NB158_170.out _; (with_reducible repeat (first | refine blk_drewN ?_ _ | refine blk_drew ?_ | refine blk_alloc ?_ _)); exact BK158.out⟩
                      have n4_ : Aside0 (((((w64.setCell ⟨gb170, 0, none⟩ (.slice Ao65 t162.length co65)).setCell ⟨gb170, 1, none⟩ (.slice Ao69 t165.length co69)).setCell ⟨gb170, 2, none⟩ (.int .i64 t168)).setCell ⟨gb170, 3, none⟩ (.int .i64 t169)).heap[gb170]? = some (.cells #[.slice Ao65 t162.length co65, .slice Ao69 t165.length co69, .int .i64 t168, .int .i64 t169] 26 (0, 0))) := ⟨by (with_reducible repeat (first | refine blk_drewN ?_ _ | refine blk_drew ?_ | refine blk_alloc ?_ _)); refine blk_put (cs := #[.slice Ao65 t162.length co65, .slice Ao69 t165.length co69, .int .i64 t168, .int .i64 0]) ?_ 3 _ rfl; (with_reducible repeat (first | refine blk_drewN ?_ _ | refine blk_drew ?_ | refine blk_alloc ?_ _)); refine blk_put (cs := #[.slice Ao65 t162.length co65, .slice Ao69 t165.length co69, .int .i64 0, .int .i64 0]) ?_ 2 _ rfl; (with_reducible repeat (first | refine blk_drewN ?_ _ | refine blk_drew ?_ | refine blk_alloc ?_ _)); refine blk_put (cs := #[.slice Ao65 t162.length co65, .slice none 0 0, .int .i64 0, .int .i64 0]) ?_ 1 _ rfl; (with_reducible repeat (first | refine blk_drewN ?_ _ | refine blk_drew ?_ | refine blk_alloc ?_ _)); refine blk_put (cs := #[.slice none 0 0, .slice none 0 0, .int .i64 0, .int .i64 0]) ?_ 0 _ rfl; (with_reducible repeat (first | refine blk_drewN ?_ _ | refine blk_drew ?_ | refine blk_alloc ?_ _)); exact BK170.out⟩
                      have n5_ : Aside0 (Below w.heap.size w ((((w64.setCell ⟨gb170, 0, none⟩ (.slice Ao65 t162.length co65)).setCell ⟨gb170, 1, none⟩ (.slice Ao69 t165.length co69)).setCell ⟨gb170, 2, none⟩ (.int .i64 t168)).setCell ⟨gb170, 3, none⟩ (.int .i64 t169))) := ⟨by repeat (first | (with_reducible first | exact HB.out | apply below_alloc | apply pw_below_drewN | apply below_drew1 | refine below_set ?_ GE157.out | refine below_set ?_ GE158.out | refine below_set ?_ GE170.out) | exact HB.out)⟩
                      (try clear HO164)
                      (try clear HO167)
                      (try clear BK157)
                      (try clear BK158)
                      (try clear BK170)
                      (try clear HB)
                      generalize ((((w64.setCell ⟨gb170, 0, none⟩ (.slice Ao65 t162.length co65)).setCell ⟨gb170, 1, none⟩ (.slice Ao69 t165.length co69)).setCell ⟨gb170, 2, none⟩ (.int .i64 t168)).setCell ⟨gb170, 3, none⟩ (.int .i64 t169)) = w70 at n0_ n1_ n2_ n3_ n4_ n5_ ⊢
                      have HO164 := n0_
                      have HO167 := n1_
                      have BK157 := n2_
                      have BK158 := n3_
                      have BK170 := n4_
                      have HB := n5_
                      clear n0_ n1_ n2_ n3_ n4_ n5_
                      have n0_ := Aside0.mk (Kd.R_drew HO164.out)
                      have n1_ := Aside0.mk (Kd.R_drew HO167.out)
                      have n2_ := Aside0.mk (blk_drew BK157.out)
                      have n3_ := Aside0.mk (blk_drew BK158.out)
                      have n4_ := Aside0.mk (blk_drew BK170.out)
                      have n5_ := Aside0.mk (below_drew1 HB.out)
                      clear HO164
                      clear HO167
                      clear BK157
                      clear BK158
                      clear BK170
                      clear HB
                      have HO164 := n0_
                      have HO167 := n1_
                      have BK157 := n2_
                      have BK158 := n3_
                      have BK170 := n4_
                      have HB := n5_
                      clear n0_ n1_ n2_ n3_ n4_ n5_
                      have p171 : 0 ≤ (a1 : Int) := of_decide_eq_true (by first | (with_reducible assumption) | assumption)
                      have q171 : a1 < (t165.length : Int) := of_decide_eq_true (by first | (with_reducible assumption) | assumption)
                      obtain ⟨ad171, e171, hx171_0⟩ := Kd.at_int (Kd.R_reads' HO167.out).2.2 a1 p171 q171
                      cases e171
                      replace p171 := eq_true p171
                      replace q171 := eq_true q171
                      refine start_ (n := 12) (S := fun w' => w'.cell? ⟨gb170, 0, none⟩ = some (.slice Ao65 t162.length co65) ∧ w'.cell? ⟨gb170, 1, none⟩ = some (.slice (some ad171) t165.length co69) ∧ w'.cell? ⟨gb170, 2, none⟩ = some (.int .i64 t168) ∧ w'.cell? ⟨gb170, 3, none⟩ = some (.int .i64 t169) ∧ w'.cell? (ad171.add (a1).toNat) = some (.int .i64 (rd t165 a1))) (ds := [11]) #[false, false, false, false, false, false, false, false, false, false, false, false] (by kernel_rfl) rfl rfl ⟨(blk_cell BK170.out 0).trans rfl, (blk_cell BK170.out 1).trans rfl, (blk_cell BK170.out 2).trans rfl, (blk_cell BK170.out 3).trans rfl, hx171_0⟩ (fun hHeld => ?_); refine with_tabW spec_Slice.tab7 spec_Slice.bits7 (fun HT_ HW_ => ?_)
                      generalize w70.drew = w71 at HO164 HO167 BK157 BK158 BK170 HB hx171_0 hHeld ⊢
                      refine pure_ (i := 0) (N := some 67) (v := ?_) (a' := ?_) #[true, false, false, false, false, false, false, false, false, false, false, false] rfl rfl (any_of HT_.out (by kernel_rfl)) (fun _ _ _ h => h) (Or.inl ⟨by rfl, ?_⟩) ?_ ?_
                      rotate_left
                      · intro w'
                        go_simp
                        with_reducible rfl
                      rotate_left
                      · simp only [Act.put, List.setIfInBounds_toArray, List.set_cons_zero, List.set_cons_succ, i64_w, i32_w]
                        rfl
                      refine pure_ (i := 2) (N := some 69) (v := ?_) (a' := ?_) #[true, false, true, false, false, false, false, false, false, false, false, false] rfl rfl (any_of HT_.out (by kernel_rfl)) (fun _ _ _ h => h) (Or.inl ⟨by rfl, ?_⟩) ?_ ?_
                      rotate_left
                      · intro w'
                        go_simp
                        with_reducible rfl
                      rotate_left
                      · simp only [Act.put, List.setIfInBounds_toArray, List.set_cons_zero, List.set_cons_succ, i64_w, i32_w]
                        rfl
                      refine pure_ (i := 3) (N := some 70) (v := ?_) (a' := ?_) #[true, false, true, true, false, false, false, false, false, false, false, false] rfl rfl (any_of HT_.out (by kernel_rfl)) (fun _ _ _ h => h) (Or.inl ⟨by rfl, ?_⟩) ?_ ?_
                      rotate_left
                      · intro w'
                        go_simp
                        with_reducible rfl
                      rotate_left
                      · simp only [Act.put, List.setIfInBounds_toArray, List.set_cons_zero, List.set_cons_succ, i64_w, i32_w]
                        rfl
                      refine pure_ (i := 5) (N := some 72) (v := ?_) (a' := ?_) #[true, false, true, true, false, true, false, false, false, false, false, false] rfl rfl (any_of HT_.out (by kernel_rfl)) (fun _ _ _ h => h) (Or.inl ⟨by rfl, ?_⟩) ?_ ?_
                      rotate_left
                      · intro w'
                        go_simp
                        with_reducible rfl
                      rotate_left
                      · simp only [Act.put, List.setIfInBounds_toArray, List.set_cons_zero, List.set_cons_succ, i64_w, i32_w]
                        rfl
                      refine take_ (i := 1) (N := some 68) (v := ?_) (a' := ?_) #[true, true, true, true, false, true, false, false, false, false, false, false] rfl rfl (take_ofW HT_.out HW_.out (by kernel_rfl)) (fun _ _ _ h => h) (Or.inl ⟨by rfl, ?_⟩) hHeld ?_ ?_
                      rotate_left
                      · rintro w' ⟨s0, s1, s2, s3, s4⟩
                        go_simp
                        with_reducible rfl
                      rotate_left
                      · simp only [Act.put, List.setIfInBounds_toArray, List.set_cons_zero, List.set_cons_succ, i64_w, i32_w]
                        rfl
                      refine take_ (i := 4) (N := some 71) (v := ?_) (a' := ?_) #[true, true, true, true, true, true, false, false, false, false, false, false] rfl rfl (take_ofW HT_.out HW_.out (by kernel_rfl)) (fun _ _ _ h => h) (Or.inl ⟨by rfl, ?_⟩) hHeld ?_ ?_
                      rotate_left
                      · rintro w' ⟨s0, s1, s2, s3, s4⟩
                        go_simp
                        with_reducible rfl
                      rotate_left
                      · simp only [Act.put, List.setIfInBounds_toArray, List.set_cons_zero, List.set_cons_succ, i64_w, i32_w]
                        rfl
                      refine pure_ (i := 6) (N := some 73) (v := ?_) (a' := ?_) #[true, true, true, true, true, true, true, false, false, false, false, false] rfl rfl (any_of HT_.out (by kernel_rfl)) (fun _ _ _ h => h) (Or.inl ⟨by rfl, ?_⟩) ?_ ?_
                      rotate_left
                      · intro w'
                        go_simp
                        with_reducible rfl
                      rotate_left
                      · simp only [Act.put, List.setIfInBounds_toArray, List.set_cons_zero, List.set_cons_succ, i64_w, i32_w]
                        rfl
                      refine take_ (i := 7) (N := some 74) (v := ?_) (a' := ?_) #[true, true, true, true, true, true, true, true, false, false, false, false] rfl rfl (take_ofW HT_.out HW_.out (by kernel_rfl)) (fun _ _ _ h => h) (Or.inl ⟨by rfl, ?_⟩) hHeld ?_ ?_
                      rotate_left
                      · rintro w' ⟨s0, s1, s2, s3, s4⟩
                        go_simp
                        with_reducible rfl
                      rotate_left
                      · simp only [Act.put, List.setIfInBounds_toArray, List.set_cons_zero, List.set_cons_succ, i64_w, i32_w]
                        rfl
                      refine pure_ (i := 8) (N := some 75) (v := ?_) (a' := ?_) #[true, true, true, true, true, true, true, true, true, false, false, false] rfl rfl (any_of HT_.out (by kernel_rfl)) (fun _ _ _ h => h) (Or.inl ⟨by rfl, ?_⟩) ?_ ?_
                      rotate_left
                      · intro w'
                        go_simp
                        with_reducible rfl
                      rotate_left
                      · simp only [Act.put, List.setIfInBounds_toArray, List.set_cons_zero, List.set_cons_succ, i64_w, i32_w]
                        rfl
                      refine pure_ (i := 9) (N := some 76) (v := ?_) (a' := ?_) #[true, true, true, true, true, true, true, true, true, true, false, false] rfl rfl (any_of HT_.out (by kernel_rfl)) (fun _ _ _ h => h) (Or.inl ⟨by rfl, ?_⟩) ?_ ?_
                      rotate_left
                      · intro w'
                        go_simp
                        with_reducible rfl
                      rotate_left
                      · simp only [Act.put, List.setIfInBounds_toArray, List.set_cons_zero, List.set_cons_succ, i64_w, i32_w]
                        rfl
                      refine pure_ (i := 10) (N := some 77) (v := ?_) (a' := ?_) #[true, true, true, true, true, true, true, true, true, true, true, false] rfl rfl (any_of HT_.out (by kernel_rfl)) (fun _ _ _ h => h) (Or.inl ⟨by rfl, ?_⟩) ?_ ?_
                      rotate_left
                      · intro w'
                        go_simp
                        with_reducible rfl
                      rotate_left
                      · simp only [Act.put, List.setIfInBounds_toArray, List.set_cons_zero, List.set_cons_succ, i64_w, i32_w]
                        rfl
                      refine last_ (i := 11) (N := none) #[true, true, true, true, true, true, true, true, true, true, true, true] rfl rfl (one_of HT_.out (by kernel_rfl)) (by decide) (fun K hK => ?_)
                      have hs72 : w71.cell? ⟨gb170, 2, none⟩ = some (.int .i64 t168) := (blk_cell BK170.out 2).trans rfl
                      have hfs72 := blk_frozen BK170.out 2
                      have hns72_0 := NB157_170.out
                      have hns72_1 := NB158_170.out
                      have hms72_0 := NB170_157.out
                      have hms72_1 := NB170_158.out
                      refine skip_ (w1 := ?_) (by rfl) rfl ?_ ?_
                      rotate_left
                      · go_simp
                        rfl
                      refine hK.out _ _ ?_
                      clear hK K
                      refine done_ (done_of HT_.out (by kernel_rfl)) ?_
                      have n0_ : Aside0 (Kd.R (Kd.int .i64) 3 (w71.setCell ⟨gb170, 2, none⟩ (.int .i64 (wrap64 (t168 + (wrap64 (a2 * (rd t165 a1))))))) w.heap.size (fun k_ => (w.heap.size ≤ k_) ∧ some k_ ≠ (.slice (some ad171) t165.length co69 : Value).ownBlock) (.slice Ao65 t162.length co65) t162) := ⟨by (with_reducible repeat (first | apply Kd.R_alloc | apply Kd.R_drewN | apply Kd.R_drew)); exact Kd.R_mono (Kd.R_far (p := ⟨gb170, 2, none⟩) (Kd.R_types HO164.out BK170.out (by decide)) (fun _ hk => hk.2) (.int .i64 (wrap64 (t168 + (wrap64 (a2 * (rd t165 a1))))))) (fun _ hk => ⟨hk.1.1, hk.1.2⟩)⟩
                      have n1_ : Aside0 (Kd.R (Kd.int .i64) 3 (w71.setCell ⟨gb170, 2, none⟩ (.int .i64 (wrap64 (t168 + (wrap64 (a2 * (rd t165 a1))))))) w.heap.size (fun k_ => (w.heap.size ≤ k_) ∧ some k_ ≠ (.slice Ao65 t162.length co65 : Value).ownBlock) (.slice (some ad171) t165.length co69) t165) := ⟨by (with_reducible repeat (first | apply Kd.R_alloc | apply Kd.R_drewN | apply Kd.R_drew)); exact Kd.R_mono (Kd.R_far (p := ⟨gb170, 2, none⟩) (Kd.R_types HO167.out BK170.out (by decide)) (fun _ hk => hk.2) (.int .i64 (wrap64 (t168 + (wrap64 (a2 * (rd t165 a1))))))) (fun _ hk => ⟨hk.1.1, hk.1.2⟩)⟩
                      have n2_ : Aside0 ((w71.setCell ⟨gb170, 2, none⟩ (.int .i64 (wrap64 (t168 + (wrap64 (a2 * (rd t165 a1))))))).heap[gb157]? = some (.cells #[.slice A0_0 l0_0.length c0_0, .slice A0_1 l0_1.length c0_1, .int .i64 a0_2, .int .i64 a0_3] 26 (0, 0))) := ⟨by (with_reducible repeat (first | refine blk_drewN ?_ _ | refine blk_drew ?_ | refine blk_alloc ?_ _)); refine blk_far ?_ NB157_170.out _; (with_reducible repeat (first | refine blk_drewN ?_ _ | refine blk_drew ?_ | refine blk_alloc ?_ _)); exact BK157.out⟩
                      have n3_ : Aside0 ((w71.setCell ⟨gb170, 2, none⟩ (.int .i64 (wrap64 (t168 + (wrap64 (a2 * (rd t165 a1))))))).heap[gb158]? = some (.cells #[.slice none 0 0, .slice none 0 0, .int .i64 0, .int .i64 0] 26 (0, 0))) := ⟨by (with_reducible repeat (first | refine blk_drewN ?_ _ | refine blk_drew ?_ | refine blk_alloc ?_ _)); refine blk_far ?_ NB158_170.out _; (with_reducible repeat (first | refine blk_drewN ?_ _ | refine blk_drew ?_ | refine blk_alloc ?_ _)); exact BK158.out⟩
                      have n4_ : Aside0 ((w71.setCell ⟨gb170, 2, none⟩ (.int .i64 (wrap64 (t168 + (wrap64 (a2 * (rd t165 a1))))))).heap[gb170]? = some (.cells #[.slice Ao65 t162.length co65, .slice (some ad171) t165.length co69, .int .i64 (wrap64 (t168 + (wrap64 (a2 * (rd t165 a1))))), .int .i64 t169] 26 (0, 0))) := ⟨by (with_reducible repeat (first | refine blk_drewN ?_ _ | refine blk_drew ?_ | refine blk_alloc ?_ _)); refine blk_put (cs := #[.slice Ao65 t162.length co65, .slice (some ad171) t165.length co69, .int .i64 t168, .int .i64 t169]) ?_ 2 _ rfl; (with_reducible repeat (first | refine blk_drewN ?_ _ | refine blk_drew ?_ | refine blk_alloc ?_ _)); exact BK170.out⟩
                      have n5_ : Aside0 (Below w.heap.size w (w71.setCell ⟨gb170, 2, none⟩ (.int .i64 (wrap64 (t168 + (wrap64 (a2 * (rd t165 a1)))))))) := ⟨by repeat (first | (with_reducible first | exact HB.out | apply below_alloc | apply pw_below_drewN | apply below_drew1 | refine below_set ?_ GE157.out | refine below_set ?_ GE158.out | refine below_set ?_ GE170.out) | exact HB.out)⟩
                      (try clear HO164)
                      (try clear HO167)
                      (try clear BK157)
                      (try clear BK158)
                      (try clear BK170)
                      (try clear HB)
                      generalize (w71.setCell ⟨gb170, 2, none⟩ (.int .i64 (wrap64 (t168 + (wrap64 (a2 * (rd t165 a1))))))) = w73 at n0_ n1_ n2_ n3_ n4_ n5_ ⊢
                      have HO164 := n0_
                      have HO167 := n1_
                      have BK157 := n2_
                      have BK158 := n3_
                      have BK170 := n4_
                      have HB := n5_
                      clear n0_ n1_ n2_ n3_ n4_ n5_
                      have hcz74_0 : w73.cell? ⟨gb170, 0, none⟩ = some (.slice Ao65 t162.length co65) := (blk_cell BK170.out 0).trans rfl
                      have hcz74_1 : w73.cell? ⟨gb170, 1, none⟩ = some (.slice (some ad171) t165.length co69) := (blk_cell BK170.out 1).trans rfl
                      have hcz74_2 : w73.cell? ⟨gb170, 2, none⟩ = some (.int .i64 (wrap64 (t168 + (wrap64 (a2 * (rd t165 a1)))))) := (blk_cell BK170.out 2).trans rfl
                      have hcz74_3 : w73.cell? ⟨gb170, 3, none⟩ = some (.int .i64 t169) := (blk_cell BK170.out 3).trans rfl
                      have hfz74_0 := blk_frozen BK170.out 0
                      have hfz74_1 := blk_frozen BK170.out 1
                      have hfz74_2 := blk_frozen BK170.out 2
                      have hfz74_3 := blk_frozen BK170.out 3
                      have p56 : 0 ≤ (a1 : Int) := of_decide_eq_true (by first | (with_reducible assumption) | assumption)
                      have q56 : (a1 : Int) < ((t162.length : Int) : Int) := of_decide_eq_true (by first | (with_reducible assumption) | assumption)
                      obtain ⟨go56, co56, eo56, gb56, gl56, cl56, HG56⟩ := Kd.R_form HO164.out (by omega)
                      (first | cases eo56 | (injection eo56 with ea_ en_ ec_; (first | subst ea_ | (injection ea_ with ea_; subst ea_)); subst ec_; clear en_))
                      have GB56 := Aside0.mk gb56
                      have GG56 := Aside0.mk HG56
                      clear gb56 gl56 HG56
                      obtain ⟨hx56_0, hf56_0⟩ := Kd.R_celln 0 HO164.out (a1 : Int) p56 q56
                      replace p56 := eq_true p56
                      replace q56 := eq_true q56
                      obtain ⟨hy75_, hz75_⟩ := Kd.R_celln 0 HO164.out (a1 : Int) (of_decide_eq_true (by first | (with_reducible assumption) | assumption)) (of_decide_eq_true (by first | (with_reducible assumption) | assumption))
                      have HP75 := Kd.R_putg HO164.out (a1 : Int) a3
                      try go_wp2_with (first | ((with_reducible refine gate_store (t := 3) (p := 82) rfl ?_); refine store_event (t := 3) (p := 82) (v := ?vo_w76) (w1 := (w73.setCell ⟨go56, (a1 : Int).toNat, none⟩ (.int .i64 a3))) ?hg ?ho ?hn ?hr ?_; (case ho => rfl); (case hg => rfl); (case hn => rfl); (case hr => first | (go_simp; done) | (go_simp; rfl)); intro w76 hw; have hg : w73.grownBy w76 (some go56) := (by rw [hw]; exact HP75.2); have hp_ : Kd.R (Kd.int .i64) 3 w76 w.heap.size (fun k_ => (w.heap.size ≤ k_) ∧ some k_ ≠ (.slice (some ad171) t165.length co69 : Value).ownBlock) (.slice (some ⟨go56, 0, none⟩) t162.length co65) y172 := (by rw [hw, Ny172.out]; exact HP75.1); clear HP75; have n0_ := Aside0.mk (blk_grown (g := gb157) (o := .cells #[.slice A0_0 l0_0.length c0_0, .slice A0_1 l0_1.length c0_1, .int .i64 a0_2, .int .i64 a0_3] 26 (0, 0)) (by (with_reducible repeat (first | refine blk_drewN ?_ _ | refine blk_drew ?_ | refine blk_alloc ?_ _)); exact BK157.out) hg (Kd.R_ne HO164.out BK157.out (by decide))); have n1_ := Aside0.mk (blk_grown (g := gb158) (o := .cells #[.slice none 0 0, .slice none 0 0, .int .i64 0, .int .i64 0] 26 (0, 0)) (by (with_reducible repeat (first | refine blk_drewN ?_ _ | refine blk_drew ?_ | refine blk_alloc ?_ _)); exact BK158.out) hg (Kd.R_ne HO164.out BK158.out (by decide))); have n2_ := Aside0.mk (hp_); have n3_ := Aside0.mk (Kd.R_after (v := (.slice (some ⟨go56, 0, none⟩) t162.length co65)) (v1 := (.slice (some ⟨go56, 0, none⟩) t162.length co65)) (ok := (fun k_ => (w.heap.size ≤ k_))) (by (with_reducible repeat (first | apply Kd.R_alloc | apply Kd.R_drewN | apply Kd.R_drew)); exact HO167.out) hg (.inl rfl)); have n4_ := Aside0.mk (blk_grown (g := gb170) (o := .cells #[.slice (some ⟨go56, 0, none⟩) t162.length co65, .slice (some ad171) t165.length co69, .int .i64 (wrap64 (t168 + (wrap64 (a2 * (rd t165 a1))))), .int .i64 t169] 26 (0, 0)) (by (with_reducible repeat (first | refine blk_drewN ?_ _ | refine blk_drew ?_ | refine blk_alloc ?_ _)); exact BK170.out) hg (Kd.R_ne HO164.out BK170.out (by decide))); have n5_ := Aside0.mk ((by rw [hw]; exact below_set (HB.out) GB56.out : Below w.heap.size w w76)); clear BK157; clear BK158; clear HO164; clear HO167; clear BK170; clear HB; have BK157 := n0_; have BK158 := n1_; have HO164 := n2_; have HO167 := n3_; have BK170 := n4_; have HB := n5_; clear n0_ n1_ n2_ n3_ n4_ n5_; clear hg hw hp_))
                      have n0_ := Aside0.mk (Kd.R_drew HO164.out)
                      have n1_ := Aside0.mk (Kd.R_drew HO167.out)
                      have n2_ := Aside0.mk (blk_drew BK157.out)
                      have n3_ := Aside0.mk (blk_drew BK158.out)
                      have n4_ := Aside0.mk (blk_drew BK170.out)
                      have n5_ := Aside0.mk (below_drew1 HB.out)
                      clear HO164
                      clear HO167
                      clear BK157
                      clear BK158
                      clear BK170
                      clear HB
                      have HO164 := n0_
                      have HO167 := n1_
                      have BK157 := n2_
                      have BK158 := n3_
                      have BK170 := n4_
                      have HB := n5_
                      clear n0_ n1_ n2_ n3_ n4_ n5_
                      have p173 : 0 ≤ (a1 : Int) := of_decide_eq_true (by first | (with_reducible assumption) | assumption)
                      have q173 : a1 < (t165.length : Int) := of_decide_eq_true (by first | (with_reducible assumption) | assumption)
                      obtain ⟨ad173, e173, hx173_0⟩ := Kd.at_int (Kd.R_reads' HO167.out).2.2 a1 p173 q173
                      obtain rfl : ad171 = ad173 := (by injection e173)
                      replace p173 := eq_true p173
                      replace q173 := eq_true q173
                      have p57 : 0 ≤ (a1 : Int) := of_decide_eq_true (by first | (with_reducible assumption) | assumption)
                      have q57 : (a1 : Int) < ((t165.length : Int) : Int) := of_decide_eq_true (by first | (with_reducible assumption) | assumption)
                      obtain ⟨go57, co57, eo57, gb57, gl57, cl57, HG57⟩ := Kd.R_form HO167.out (by omega)
                      (first | cases eo57 | (injection eo57 with ea_ en_ ec_; (first | subst ea_ | (injection ea_ with ea_; subst ea_)); subst ec_; clear en_))
                      have GB57 := Aside0.mk gb57
                      have GG57 := Aside0.mk HG57
                      clear gb57 gl57 HG57
                      (first | simp only [add_plain] at hx171_0 | skip)
                      (first | simp only [add_plain] at hx173_0 | skip)
                      obtain ⟨hx57_0, hf57_0⟩ := Kd.R_celln 0 HO167.out (a1 : Int) p57 q57
                      replace p57 := eq_true p57
                      replace q57 := eq_true q57
                      have HP78 := Kd.R_putn HO167.out (a1 : Int) (wrap64 ((rd t165 a1) * a4))
                      rw [← Ny174.out] at HP78
                      have HQ78 := Aside0.mk HP78
                      clear HP78
                      refine start_ (n := 12) (S := fun w' => w'.cell? ⟨gb170, 0, none⟩ = some (.slice (some ⟨go56, 0, none⟩) t162.length co65) ∧ w'.cell? ⟨gb170, 1, none⟩ = some (.slice (some ⟨go57, 0, none⟩) t165.length co69) ∧ w'.cell? ⟨gb170, 2, none⟩ = some (.int .i64 (wrap64 (t168 + (wrap64 (a2 * (rd t165 a1)))))) ∧ w'.cell? ⟨gb170, 3, none⟩ = some (.int .i64 t169) ∧ w'.cell? ⟨go57, (a1).toNat, none⟩ = some (.int .i64 (rd t165 a1))) (ds := [11]) #[false, false, false, false, false, false, false, false, false, false, false, false] (by kernel_rfl) rfl rfl ⟨(blk_cell BK170.out 0).trans rfl, (blk_cell BK170.out 1).trans rfl, (blk_cell BK170.out 2).trans rfl, (blk_cell BK170.out 3).trans rfl, hx173_0⟩ (fun hHeld => ?_); refine with_tabW spec_Slice.tab9 spec_Slice.bits9 (fun HT_ HW_ => ?_)
                      generalize w76.drew = w77 at HO164 HO167 BK157 BK158 BK170 HB GG57 HQ78 hf57_0 hx171_0 hx173_0 hx57_0 hHeld ⊢
                      refine pure_ (i := 0) (N := some 83) (v := ?_) (a' := ?_) #[true, false, false, false, false, false, false, false, false, false, false, false] rfl rfl (any_of HT_.out (by kernel_rfl)) (fun _ _ _ h => h) (Or.inl ⟨by rfl, ?_⟩) ?_ ?_
                      rotate_left
                      · intro w'
                        go_simp
                        with_reducible rfl
                      rotate_left
                      · simp only [Act.put, List.setIfInBounds_toArray, List.set_cons_zero, List.set_cons_succ, i64_w, i32_w]
                        rfl
                      refine pure_ (i := 2) (N := some 85) (v := ?_) (a' := ?_) #[true, false, true, false, false, false, false, false, false, false, false, false] rfl rfl (any_of HT_.out (by kernel_rfl)) (fun _ _ _ h => h) (Or.inl ⟨by rfl, ?_⟩) ?_ ?_
                      rotate_left
                      · intro w'
                        go_simp
                        with_reducible rfl
                      rotate_left
                      · simp only [Act.put, List.setIfInBounds_toArray, List.set_cons_zero, List.set_cons_succ, i64_w, i32_w]
                        rfl
                      refine pure_ (i := 3) (N := some 86) (v := ?_) (a' := ?_) #[true, false, true, true, false, false, false, false, false, false, false, false] rfl rfl (any_of HT_.out (by kernel_rfl)) (fun _ _ _ h => h) (Or.inl ⟨by rfl, ?_⟩) ?_ ?_
                      rotate_left
                      · intro w'
                        go_simp
                        with_reducible rfl
                      rotate_left
                      · simp only [Act.put, List.setIfInBounds_toArray, List.set_cons_zero, List.set_cons_succ, i64_w, i32_w]
                        rfl
                      refine pure_ (i := 5) (N := some 88) (v := ?_) (a' := ?_) #[true, false, true, true, false, true, false, false, false, false, false, false] rfl rfl (any_of HT_.out (by kernel_rfl)) (fun _ _ _ h => h) (Or.inl ⟨by rfl, ?_⟩) ?_ ?_
                      rotate_left
                      · intro w'
                        go_simp
                        with_reducible rfl
                      rotate_left
                      · simp only [Act.put, List.setIfInBounds_toArray, List.set_cons_zero, List.set_cons_succ, i64_w, i32_w]
                        rfl
                      refine pure_ (i := 8) (N := some 91) (v := ?_) (a' := ?_) #[true, false, true, true, false, true, false, false, true, false, false, false] rfl rfl (any_of HT_.out (by kernel_rfl)) (fun _ _ _ h => h) (Or.inl ⟨by rfl, ?_⟩) ?_ ?_
                      rotate_left
                      · intro w'
                        go_simp
                        with_reducible rfl
                      rotate_left
                      · simp only [Act.put, List.setIfInBounds_toArray, List.set_cons_zero, List.set_cons_succ, i64_w, i32_w]
                        rfl
                      refine take_ (i := 1) (N := some 84) (v := ?_) (a' := ?_) #[true, true, true, true, false, true, false, false, true, false, false, false] rfl rfl (take_ofW HT_.out HW_.out (by kernel_rfl)) (fun _ _ _ h => h) (Or.inl ⟨by rfl, ?_⟩) hHeld ?_ ?_
                      rotate_left
                      · rintro w' ⟨s0, s1, s2, s3, s4⟩
                        go_simp
                        with_reducible rfl
                      rotate_left
                      · simp only [Act.put, List.setIfInBounds_toArray, List.set_cons_zero, List.set_cons_succ, i64_w, i32_w]
                        rfl
                      refine take_ (i := 4) (N := some 87) (v := ?_) (a' := ?_) #[true, true, true, true, true, true, false, false, true, false, false, false] rfl rfl (take_ofW HT_.out HW_.out (by kernel_rfl)) (fun _ _ _ h => h) (Or.inl ⟨by rfl, ?_⟩) hHeld ?_ ?_
                      rotate_left
                      · rintro w' ⟨s0, s1, s2, s3, s4⟩
                        go_simp
                        with_reducible rfl
                      rotate_left
                      · simp only [Act.put, List.setIfInBounds_toArray, List.set_cons_zero, List.set_cons_succ, i64_w, i32_w]
                        rfl
                      refine pure_ (i := 6) (N := some 89) (v := ?_) (a' := ?_) #[true, true, true, true, true, true, true, false, true, false, false, false] rfl rfl (any_of HT_.out (by kernel_rfl)) (fun _ _ _ h => h) (Or.inl ⟨by rfl, ?_⟩) ?_ ?_
                      rotate_left
                      · intro w'
                        go_simp
                        with_reducible rfl
                      rotate_left
                      · simp only [Act.put, List.setIfInBounds_toArray, List.set_cons_zero, List.set_cons_succ, i64_w, i32_w]
                        rfl
                      refine take_ (i := 7) (N := some 90) (v := ?_) (a' := ?_) #[true, true, true, true, true, true, true, true, true, false, false, false] rfl rfl (take_ofW HT_.out HW_.out (by kernel_rfl)) (fun _ _ _ h => h) (Or.inl ⟨by rfl, ?_⟩) hHeld ?_ ?_
                      rotate_left
                      · rintro w' ⟨s0, s1, s2, s3, s4⟩
                        go_simp
                        with_reducible rfl
                      rotate_left
                      · simp only [Act.put, List.setIfInBounds_toArray, List.set_cons_zero, List.set_cons_succ, i64_w, i32_w]
                        rfl
                      refine pure_ (i := 9) (N := some 92) (v := ?_) (a' := ?_) #[true, true, true, true, true, true, true, true, true, true, false, false] rfl rfl (any_of HT_.out (by kernel_rfl)) (fun _ _ _ h => h) (Or.inl ⟨by rfl, ?_⟩) ?_ ?_
                      rotate_left
                      · intro w'
                        go_simp
                        with_reducible rfl
                      rotate_left
                      · simp only [Act.put, List.setIfInBounds_toArray, List.set_cons_zero, List.set_cons_succ, i64_w, i32_w]
                        rfl
                      refine pure_ (i := 10) (N := some 93) (v := ?_) (a' := ?_) #[true, true, true, true, true, true, true, true, true, true, true, false] rfl rfl (any_of HT_.out (by kernel_rfl)) (fun _ _ _ h => h) (Or.inl ⟨by rfl, ?_⟩) ?_ ?_
                      rotate_left
                      · intro w'
                        go_simp
                        with_reducible rfl
                      rotate_left
                      · simp only [Act.put, List.setIfInBounds_toArray, List.set_cons_zero, List.set_cons_succ, i64_w, i32_w]
                        rfl
                      refine last_ (i := 11) (N := none) #[true, true, true, true, true, true, true, true, true, true, true, true] rfl rfl (one_of HT_.out (by kernel_rfl)) (by decide) (fun K hK => ?_)
                      refine skip_ (w1 := ?_) (by rfl) rfl ?_ ?_
                      rotate_left
                      · go_simp
                        rfl
                      refine hK.out _ _ ?_
                      clear hK K
                      refine done_ (done_of HT_.out (by kernel_rfl)) ?_
                      have n0_ : Aside0 (Kd.R (Kd.int .i64) 3 (w77.setCell ⟨go57, (a1 : Int).toNat, none⟩ (.int .i64 (wrap64 ((rd t165 a1) * a4)))) w.heap.size (fun k_ => (w.heap.size ≤ k_) ∧ some k_ ≠ (.slice (some ⟨go57, 0, none⟩) t165.length co69 : Value).ownBlock) (.slice (some ⟨go56, 0, none⟩) t162.length co65) y172) := ⟨by (with_reducible repeat (first | apply Kd.R_alloc | apply Kd.R_drewN | apply Kd.R_drew)); exact Kd.R_mono (Kd.R_far (p := ⟨go57, (a1 : Int).toNat, none⟩) (Kd.R_mono HO164.out (fun k_ hk => (⟨hk, fun e_ => hk.2 (by rw [e_]; rfl)⟩ : _ ∧ k_ ≠ go57))) (fun _ hk => hk.2) (.int .i64 (wrap64 ((rd t165 a1) * a4)))) (fun _ hk => ⟨hk.1.1, hk.1.2⟩)⟩
                      have n1_ : Aside0 (Kd.R (Kd.int .i64) 3 (w77.setCell ⟨go57, (a1 : Int).toNat, none⟩ (.int .i64 (wrap64 ((rd t165 a1) * a4)))) w.heap.size (fun k_ => (w.heap.size ≤ k_) ∧ some k_ ≠ (.slice (some ⟨go56, 0, none⟩) t162.length co65 : Value).ownBlock) (.slice (some ⟨go57, 0, none⟩) t165.length co69) y174) := ⟨by (with_reducible repeat (first | apply Kd.R_alloc | apply Kd.R_drewN | apply Kd.R_drew)); exact HQ78.out⟩
                      have n2_ : Aside0 ((w77.setCell ⟨go57, (a1 : Int).toNat, none⟩ (.int .i64 (wrap64 ((rd t165 a1) * a4)))).heap[gb157]? = some (.cells #[.slice A0_0 l0_0.length c0_0, .slice A0_1 l0_1.length c0_1, .int .i64 a0_2, .int .i64 a0_3] 26 (0, 0))) := ⟨by (with_reducible repeat (first | refine blk_drewN ?_ _ | refine blk_drew ?_ | refine blk_alloc ?_ _)); refine blk_far ?_ (by have h_ := Kd.R_ne HO167.out BK157.out (by decide); intro e_; exact h_ (by rw [e_]; rfl)) _; (with_reducible repeat (first | refine blk_drewN ?_ _ | refine blk_drew ?_ | refine blk_alloc ?_ _)); exact BK157.out⟩
                      have n3_ : Aside0 ((w77.setCell ⟨go57, (a1 : Int).toNat, none⟩ (.int .i64 (wrap64 ((rd t165 a1) * a4)))).heap[gb158]? = some (.cells #[.slice none 0 0, .slice none 0 0, .int .i64 0, .int .i64 0] 26 (0, 0))) := ⟨by (with_reducible repeat (first | refine blk_drewN ?_ _ | refine blk_drew ?_ | refine blk_alloc ?_ _)); refine blk_far ?_ (by have h_ := Kd.R_ne HO167.out BK158.out (by decide); intro e_; exact h_ (by rw [e_]; rfl)) _; (with_reducible repeat (first | refine blk_drewN ?_ _ | refine blk_drew ?_ | refine blk_alloc ?_ _)); exact BK158.out⟩
                      have n4_ : Aside0 ((w77.setCell ⟨go57, (a1 : Int).toNat, none⟩ (.int .i64 (wrap64 ((rd t165 a1) * a4)))).heap[gb170]? = some (.cells #[.slice (some ⟨go56, 0, none⟩) t162.length co65, .slice (some ⟨go57, 0, none⟩) t165.length co69, .int .i64 (wrap64 (t168 + (wrap64 (a2 * (rd t165 a1))))), .int .i64 t169] 26 (0, 0))) := ⟨by (with_reducible repeat (first | refine blk_drewN ?_ _ | refine blk_drew ?_ | refine blk_alloc ?_ _)); refine blk_far ?_ (by have h_ := Kd.R_ne HO167.out BK170.out (by decide); intro e_; exact h_ (by rw [e_]; rfl)) _; (with_reducible repeat (first | refine blk_drewN ?_ _ | refine blk_drew ?_ | refine blk_alloc ?_ _)); exact BK170.out⟩
                      have n5_ : Aside0 (Below w.heap.size w (w77.setCell ⟨go57, (a1 : Int).toNat, none⟩ (.int .i64 (wrap64 ((rd t165 a1) * a4))))) := ⟨by repeat (first | (with_reducible first | exact HB.out | apply below_alloc | apply pw_below_drewN | apply below_drew1 | refine below_set ?_ GB57.out | refine below_set ?_ GE157.out | refine below_set ?_ GE158.out | refine below_set ?_ GE170.out) | exact HB.out)⟩
                      (try clear HO164)
                      (try clear HO167)
                      (try clear BK157)
                      (try clear BK158)
                      (try clear BK170)
                      (try clear HB)
                      generalize (w77.setCell ⟨go57, (a1 : Int).toNat, none⟩ (.int .i64 (wrap64 ((rd t165 a1) * a4)))) = w79 at n0_ n1_ n2_ n3_ n4_ n5_ ⊢
                      have HO164 := n0_
                      have HO167 := n1_
                      have BK157 := n2_
                      have BK158 := n3_
                      have BK170 := n4_
                      have HB := n5_
                      clear n0_ n1_ n2_ n3_ n4_ n5_
                      have hcz80_0 : w79.cell? ⟨gb170, 0, none⟩ = some (.slice (some ⟨go56, 0, none⟩) t162.length co65) := (blk_cell BK170.out 0).trans rfl
                      have hcz80_1 : w79.cell? ⟨gb170, 1, none⟩ = some (.slice (some ⟨go57, 0, none⟩) t165.length co69) := (blk_cell BK170.out 1).trans rfl
                      have hcz80_2 : w79.cell? ⟨gb170, 2, none⟩ = some (.int .i64 (wrap64 (t168 + (wrap64 (a2 * (rd t165 a1)))))) := (blk_cell BK170.out 2).trans rfl
                      have hcz80_3 : w79.cell? ⟨gb170, 3, none⟩ = some (.int .i64 t169) := (blk_cell BK170.out 3).trans rfl
                      have hfz80_0 := blk_frozen BK170.out 0
                      have hfz80_1 := blk_frozen BK170.out 1
                      have hfz80_2 := blk_frozen BK170.out 2
                      have hfz80_3 := blk_frozen BK170.out 3
                      have p59 : 0 ≤ (a1 : Int) := of_decide_eq_true (by first | (with_reducible assumption) | assumption)
                      have q59 : (a1 : Int) < ((t165.length : Int) : Int) := of_decide_eq_true (by first | (with_reducible assumption) | assumption)
                      replace p59 := eq_true p59
                      replace q59 := eq_true q59
                      obtain ⟨hy81_, hz81_⟩ := Kd.R_celln 0 HO167.out (a1 : Int) (of_decide_eq_true (by first | (with_reducible assumption) | assumption)) (of_decide_eq_true (by first | (with_reducible assumption) | assumption))
                      have HP81 := Kd.R_putg HO167.out (a1 : Int) 0
                      try go_wp2_with (first | ((with_reducible refine gate_store (t := 3) (p := 99) rfl ?_); refine store_event (t := 3) (p := 99) (v := ?vo_w82) (w1 := (w79.setCell ⟨go57, (a1 : Int).toNat, none⟩ (.int .i64 0))) ?hg ?ho ?hn ?hr ?_; (case ho => rfl); (case hg => rfl); (case hn => rfl); (case hr => first | (go_simp; done) | (go_simp; rfl)); intro w82 hw; have hg : w79.grownBy w82 (some go57) := (by rw [hw]; exact HP81.2); have hp_ : Kd.R (Kd.int .i64) 3 w82 w.heap.size (fun k_ => (w.heap.size ≤ k_) ∧ some k_ ≠ (.slice (some ⟨go56, 0, none⟩) t162.length co65 : Value).ownBlock) (.slice (some ⟨go57, 0, none⟩) t165.length co69) y175 := (by rw [hw, Ny175.out]; exact HP81.1); clear HP81; have n0_ := Aside0.mk (blk_grown (g := gb157) (o := .cells #[.slice A0_0 l0_0.length c0_0, .slice A0_1 l0_1.length c0_1, .int .i64 a0_2, .int .i64 a0_3] 26 (0, 0)) (by (with_reducible repeat (first | refine blk_drewN ?_ _ | refine blk_drew ?_ | refine blk_alloc ?_ _)); exact BK157.out) hg (Kd.R_ne HO167.out BK157.out (by decide))); have n1_ := Aside0.mk (blk_grown (g := gb158) (o := .cells #[.slice none 0 0, .slice none 0 0, .int .i64 0, .int .i64 0] 26 (0, 0)) (by (with_reducible repeat (first | refine blk_drewN ?_ _ | refine blk_drew ?_ | refine blk_alloc ?_ _)); exact BK158.out) hg (Kd.R_ne HO167.out BK158.out (by decide))); have n2_ := Aside0.mk (Kd.R_after (v := (.slice (some ⟨go57, 0, none⟩) t165.length co69)) (v1 := (.slice (some ⟨go57, 0, none⟩) t165.length co69)) (ok := (fun k_ => (w.heap.size ≤ k_))) (by (with_reducible repeat (first | apply Kd.R_alloc | apply Kd.R_drewN | apply Kd.R_drew)); exact HO164.out) hg (.inl rfl)); have n3_ := Aside0.mk (hp_); have n4_ := Aside0.mk (blk_grown (g := gb170) (o := .cells #[.slice (some ⟨go56, 0, none⟩) t162.length co65, .slice (some ⟨go57, 0, none⟩) t165.length co69, .int .i64 (wrap64 (t168 + (wrap64 (a2 * (rd t165 a1))))), .int .i64 t169] 26 (0, 0)) (by (with_reducible repeat (first | refine blk_drewN ?_ _ | refine blk_drew ?_ | refine blk_alloc ?_ _)); exact BK170.out) hg (Kd.R_ne HO167.out BK170.out (by decide))); have n5_ := Aside0.mk ((by rw [hw]; exact below_set (HB.out) GB57.out : Below w.heap.size w w82)); clear BK157; clear BK158; clear HO164; clear HO167; clear BK170; clear HB; have BK157 := n0_; have BK158 := n1_; have HO164 := n2_; have HO167 := n3_; have BK170 := n4_; have HB := n5_; clear n0_ n1_ n2_ n3_ n4_ n5_; clear hg hw hp_; have hcz83_0 : w82.cell? ⟨gb170, 0, none⟩ = some (.slice (some ⟨go56, 0, none⟩) t162.length co65) := (blk_cell BK170.out 0).trans rfl; have hcz83_1 : w82.cell? ⟨gb170, 1, none⟩ = some (.slice (some ⟨go57, 0, none⟩) t165.length co69) := (blk_cell BK170.out 1).trans rfl; have hcz83_2 : w82.cell? ⟨gb170, 2, none⟩ = some (.int .i64 (wrap64 (t168 + (wrap64 (a2 * (rd t165 a1)))))) := (blk_cell BK170.out 2).trans rfl; have hcz83_3 : w82.cell? ⟨gb170, 3, none⟩ = some (.int .i64 t169) := (blk_cell BK170.out 3).trans rfl; have hfz83_0 := blk_frozen BK170.out 0; have hfz83_1 := blk_frozen BK170.out 1; have hfz83_2 := blk_frozen BK170.out 2; have hfz83_3 := blk_frozen BK170.out 3) | ((with_reducible refine gate_callee (f := 37) rfl ?_); refine goesL_ (some 101) rfl rfl Try.func37 (by kernel_rfl) rfl #[.agg #[.slice (some ⟨go56, 0, none⟩) y172.length co65, .slice (some ⟨go57, 0, none⟩) y175.length co69, .int .i64 (wrap64 (t168 + (wrap64 (a2 * (rd t165 a1))))), .int .i64 t169]] rfl (by (try simp only [List.map_toArray, List.map_cons, List.map_nil]); first | done | (rw [show y172.length = t162.length from (Kd.R_reads' HO164.out).1.symm, show y175.length = t165.length from (Kd.R_reads' HO167.out).1.symm] <;> rfl) | rfl | (simp only [List.length_drop, List.length_take]; rfl)) ?_; (with_reducible refine (spec_l3Or.calls kj42 (fun k_ => some k_ = (.slice (some ⟨go56, 0, none⟩) t162.length co65 : Value).ownBlock) _ _ y172 (fun k_ => some k_ = (.slice (some ⟨go57, 0, none⟩) t165.length co69 : Value).ownBlock) _ _ y175 (wrap64 (t168 + (wrap64 (a2 * (rd t165 a1))))) t169 t176 t179 t182 t183 _ ?side1 ?side2 A60.out).mono ?_); (case side1 => rw [show y172.length = t162.length from (Kd.R_reads' HO164.out).1.symm]; exact Kd.R_V (Kd.R_tight rfl (Kd.R_types (Kd.R_types (Kd.R_types (HO164.out) BK157.out (by decide)) BK158.out (by decide)) BK170.out (by decide)))); (case side2 => rw [show y175.length = t165.length from (Kd.R_reads' HO167.out).1.symm]; exact Kd.R_V (Kd.R_tight rfl (Kd.R_types (Kd.R_types (Kd.R_types (HO167.out) BK157.out (by decide)) BK158.out (by decide)) BK170.out (by decide)))); rintro e w84 ⟨v177, v180, rfl, ho0, ho1, hb⟩; refine ⟨_, rfl, ?_⟩; have n0_ := Aside0.mk (Kd.R_below (by (with_reducible repeat (first | apply Kd.R_alloc | apply Kd.R_drewN | apply Kd.R_drew)); exact HO164.out) hb); have n1_ := Aside0.mk (Kd.R_below (by (with_reducible repeat (first | apply Kd.R_alloc | apply Kd.R_drewN | apply Kd.R_drew)); exact HO167.out) hb); have n2_ := Aside0.mk (Kd.V_lower (Kd.V_mono (ok' := fun k_ => (w.heap.size ≤ k_) ∧ k_ ≠ gb157 ∧ k_ ≠ gb158 ∧ k_ ≠ gb170) ho0 (fun k_ hk_ => ⟨Or.elim hk_ (fun hs_ => Or.elim hs_ (fun hs_ => ((Kd.R_types (Kd.R_types (Kd.R_types (HO164.out) BK157.out (by decide)) BK158.out (by decide)) BK170.out (by decide)).1 k_ hs_.symm).1.1.1.1) (fun hs_ => ((Kd.R_types (Kd.R_types (Kd.R_types (HO167.out) BK157.out (by decide)) BK158.out (by decide)) BK170.out (by decide)).1 k_ hs_.symm).1.1.1.1)) (fun hn_ => (Nat.le_trans (below_size (by repeat (first | (with_reducible first | exact HB.out | apply below_alloc | apply pw_below_drewN | apply below_drew1 | refine below_set ?_ GE157.out | refine below_set ?_ GE158.out | refine below_set ?_ GE170.out) | exact HB.out))) hn_)), Or.elim hk_ (fun hs_ => Or.elim hs_ (fun hs_ => ((Kd.R_types (Kd.R_types (Kd.R_types (HO164.out) BK157.out (by decide)) BK158.out (by decide)) BK170.out (by decide)).1 k_ hs_.symm).1.1.2) (fun hs_ => ((Kd.R_types (Kd.R_types (Kd.R_types (HO167.out) BK157.out (by decide)) BK158.out (by decide)) BK170.out (by decide)).1 k_ hs_.symm).1.1.2)) (fun hn_ => (Kd.freshB (g := gb157) (o := .cells #[.slice A0_0 l0_0.length c0_0, .slice A0_1 l0_1.length c0_1, .int .i64 a0_2, .int .i64 a0_3] 26 (0, 0)) (by (with_reducible repeat (first | refine blk_drewN ?_ _ | refine blk_drew ?_ | refine blk_alloc ?_ _)); exact BK157.out) k_ hn_)), Or.elim hk_ (fun hs_ => Or.elim hs_ (fun hs_ => ((Kd.R_types (Kd.R_types (Kd.R_types (HO164.out) BK157.out (by decide)) BK158.out (by decide)) BK170.out (by decide)).1 k_ hs_.symm).1.2) (fun hs_ => ((Kd.R_types (Kd.R_types (Kd.R_types (HO167.out) BK157.out (by decide)) BK158.out (by decide)) BK170.out (by decide)).1 k_ hs_.symm).1.2)) (fun hn_ => (Kd.freshB (g := gb158) (o := .cells #[.slice none 0 0, .slice none 0 0, .int .i64 0, .int .i64 0] 26 (0, 0)) (by (with_reducible repeat (first | refine blk_drewN ?_ _ | refine blk_drew ?_ | refine blk_alloc ?_ _)); exact BK158.out) k_ hn_)), Or.elim hk_ (fun hs_ => Or.elim hs_ (fun hs_ => ((Kd.R_types (Kd.R_types (Kd.R_types (HO164.out) BK157.out (by decide)) BK158.out (by decide)) BK170.out (by decide)).1 k_ hs_.symm).2) (fun hs_ => ((Kd.R_types (Kd.R_types (Kd.R_types (HO167.out) BK157.out (by decide)) BK158.out (by decide)) BK170.out (by decide)).1 k_ hs_.symm).2)) (fun hn_ => (Kd.freshB (g := gb170) (o := .cells #[.slice (some ⟨go56, 0, none⟩) t162.length co65, .slice (some ⟨go57, 0, none⟩) t165.length co69, .int .i64 (wrap64 (t168 + (wrap64 (a2 * (rd t165 a1))))), .int .i64 t169] 26 (0, 0)) (by (with_reducible repeat (first | refine blk_drewN ?_ _ | refine blk_drew ?_ | refine blk_alloc ?_ _)); exact BK170.out) k_ hn_))⟩)) (below_size (by repeat (first | (with_reducible first | exact HB.out | apply below_alloc | apply pw_below_drewN | apply below_drew1 | refine below_set ?_ GE157.out | refine below_set ?_ GE158.out | refine below_set ?_ GE170.out) | exact HB.out)))); have n3_ := Aside0.mk (Kd.V_lower (Kd.V_mono (ok' := fun k_ => (w.heap.size ≤ k_) ∧ k_ ≠ gb157 ∧ k_ ≠ gb158 ∧ k_ ≠ gb170) ho1 (fun k_ hk_ => ⟨Or.elim hk_ (fun hs_ => Or.elim hs_ (fun hs_ => ((Kd.R_types (Kd.R_types (Kd.R_types (HO164.out) BK157.out (by decide)) BK158.out (by decide)) BK170.out (by decide)).1 k_ hs_.symm).1.1.1.1) (fun hs_ => ((Kd.R_types (Kd.R_types (Kd.R_types (HO167.out) BK157.out (by decide)) BK158.out (by decide)) BK170.out (by decide)).1 k_ hs_.symm).1.1.1.1)) (fun hn_ => (Nat.le_trans (below_size (by repeat (first | (with_reducible first | exact HB.out | apply below_alloc | apply pw_below_drewN | apply below_drew1 | refine below_set ?_ GE157.out | refine below_set ?_ GE158.out | refine below_set ?_ GE170.out) | exact HB.out))) hn_)), Or.elim hk_ (fun hs_ => Or.elim hs_ (fun hs_ => ((Kd.R_types (Kd.R_types (Kd.R_types (HO164.out) BK157.out (by decide)) BK158.out (by decide)) BK170.out (by decide)).1 k_ hs_.symm).1.1.2) (fun hs_ => ((Kd.R_types (Kd.R_types (Kd.R_types (HO167.out) BK157.out (by decide)) BK158.out (by decide)) BK170.out (by decide)).1 k_ hs_.symm).1.1.2)) (fun hn_ => (Kd.freshB (g := gb157) (o := .cells #[.slice A0_0 l0_0.length c0_0, .slice A0_1 l0_1.length c0_1, .int .i64 a0_2, .int .i64 a0_3] 26 (0, 0)) (by (with_reducible repeat (first | refine blk_drewN ?_ _ | refine blk_drew ?_ | refine blk_alloc ?_ _)); exact BK157.out) k_ hn_)), Or.elim hk_ (fun hs_ => Or.elim hs_ (fun hs_ => ((Kd.R_types (Kd.R_types (Kd.R_types (HO164.out) BK157.out (by decide)) BK158.out (by decide)) BK170.out (by decide)).1 k_ hs_.symm).1.2) (fun hs_ => ((Kd.R_types (Kd.R_types (Kd.R_types (HO167.out) BK157.out (by decide)) BK158.out (by decide)) BK170.out (by decide)).1 k_ hs_.symm).1.2)) (fun hn_ => (Kd.freshB (g := gb158) (o := .cells #[.slice none 0 0, .slice none 0 0, .int .i64 0, .int .i64 0] 26 (0, 0)) (by (with_reducible repeat (first | refine blk_drewN ?_ _ | refine blk_drew ?_ | refine blk_alloc ?_ _)); exact BK158.out) k_ hn_)), Or.elim hk_ (fun hs_ => Or.elim hs_ (fun hs_ => ((Kd.R_types (Kd.R_types (Kd.R_types (HO164.out) BK157.out (by decide)) BK158.out (by decide)) BK170.out (by decide)).1 k_ hs_.symm).2) (fun hs_ => ((Kd.R_types (Kd.R_types (Kd.R_types (HO167.out) BK157.out (by decide)) BK158.out (by decide)) BK170.out (by decide)).1 k_ hs_.symm).2)) (fun hn_ => (Kd.freshB (g := gb170) (o := .cells #[.slice (some ⟨go56, 0, none⟩) t162.length co65, .slice (some ⟨go57, 0, none⟩) t165.length co69, .int .i64 (wrap64 (t168 + (wrap64 (a2 * (rd t165 a1))))), .int .i64 t169] 26 (0, 0)) (by (with_reducible repeat (first | refine blk_drewN ?_ _ | refine blk_drew ?_ | refine blk_alloc ?_ _)); exact BK170.out) k_ hn_))⟩)) (below_size (by repeat (first | (with_reducible first | exact HB.out | apply below_alloc | apply pw_below_drewN | apply below_drew1 | refine below_set ?_ GE157.out | refine below_set ?_ GE158.out | refine below_set ?_ GE170.out) | exact HB.out)))); have n4_ := Aside0.mk (blk_below (g := gb157) (o := .cells #[.slice A0_0 l0_0.length c0_0, .slice A0_1 l0_1.length c0_1, .int .i64 a0_2, .int .i64 a0_3] 26 (0, 0)) (by (with_reducible repeat (first | refine blk_drewN ?_ _ | refine blk_drew ?_ | refine blk_alloc ?_ _)); exact BK157.out) hb); have n5_ := Aside0.mk (blk_below (g := gb158) (o := .cells #[.slice none 0 0, .slice none 0 0, .int .i64 0, .int .i64 0] 26 (0, 0)) (by (with_reducible repeat (first | refine blk_drewN ?_ _ | refine blk_drew ?_ | refine blk_alloc ?_ _)); exact BK158.out) hb); have n6_ := Aside0.mk (blk_below (g := gb170) (o := .cells #[.slice (some ⟨go56, 0, none⟩) t162.length co65, .slice (some ⟨go57, 0, none⟩) t165.length co69, .int .i64 (wrap64 (t168 + (wrap64 (a2 * (rd t165 a1))))), .int .i64 t169] 26 (0, 0)) (by (with_reducible repeat (first | refine blk_drewN ?_ _ | refine blk_drew ?_ | refine blk_alloc ?_ _)); exact BK170.out) hb); have n7_ := Aside0.mk (below_step (by repeat (first | (with_reducible first | exact HB.out | apply below_alloc | apply pw_below_drewN | apply below_drew1 | refine below_set ?_ GE157.out | refine below_set ?_ GE158.out | refine below_set ?_ GE170.out) | exact HB.out)) hb); clear HO164; clear HO167; clear BK157; clear BK158; clear BK170; clear HB; have HO164 := n0_; have HO167 := n1_; have HO178 := n2_; have HO181 := n3_; have BK157 := n4_; have BK158 := n5_; have BK170 := n6_; have HB := n7_; clear n0_ n1_ n2_ n3_ n4_ n5_ n6_ n7_; (try clear hb); (try clear hb2); (try clear hk); (try clear hi); (try clear ho0); (try clear ho1); obtain ⟨Ao85, co85, eo85⟩ := Kd.V_slice HO178.out; subst eo85; have hcz86_0 : w84.cell? ⟨gb158, 0, none⟩ = some (.slice none 0 0) := (blk_cell BK158.out 0).trans rfl; have hcz86_1 : w84.cell? ⟨gb158, 1, none⟩ = some (.slice none 0 0) := (blk_cell BK158.out 1).trans rfl; have hcz86_2 : w84.cell? ⟨gb158, 2, none⟩ = some (.int .i64 0) := (blk_cell BK158.out 2).trans rfl; have hcz86_3 : w84.cell? ⟨gb158, 3, none⟩ = some (.int .i64 0) := (blk_cell BK158.out 3).trans rfl; have hfz86_0 := blk_frozen BK158.out 0; have hfz86_1 := blk_frozen BK158.out 1; have hfz86_2 := blk_frozen BK158.out 2; have hfz86_3 := blk_frozen BK158.out 3; obtain ⟨Ao87, co87, eo87⟩ := Kd.V_slice HO181.out; subst eo87))
                      refine bodyPost_ret (results_cell_row rfl _ _ gb158 26 #[.slice Ao85 t176.length co85, .slice Ao87 t179.length co87, .int .i64 t182, .int .i64 t183] (0, 0) _ rfl (by (with_reducible repeat (first | refine blk_drewN ?_ _ | refine blk_drew ?_ | refine blk_alloc ?_ _)); refine blk_put (cs := #[.slice Ao85 t176.length co85, .slice Ao87 t179.length co87, .int .i64 t182, .int .i64 0]) ?_ 3 _ rfl; (with_reducible repeat (first | refine blk_drewN ?_ _ | refine blk_drew ?_ | refine blk_alloc ?_ _)); refine blk_put (cs := #[.slice Ao85 t176.length co85, .slice Ao87 t179.length co87, .int .i64 0, .int .i64 0]) ?_ 2 _ rfl; (with_reducible repeat (first | refine blk_drewN ?_ _ | refine blk_drew ?_ | refine blk_alloc ?_ _)); refine blk_put (cs := #[.slice Ao85 t176.length co85, .slice none 0 0, .int .i64 0, .int .i64 0]) ?_ 1 _ rfl; (with_reducible repeat (first | refine blk_drewN ?_ _ | refine blk_drew ?_ | refine blk_alloc ?_ _)); refine blk_put (cs := #[.slice none 0 0, .slice none 0 0, .int .i64 0, .int .i64 0]) ?_ 0 _ rfl; (with_reducible repeat (first | refine blk_drewN ?_ _ | refine blk_drew ?_ | refine blk_alloc ?_ _)); exact BK158.out) Try.underlying26 rfl (by kernel_rfl)) rfl ?_
                      exact ⟨_, _, by first | rfl | (simp [errW_none, errW_some] <;> rfl) | (simp [*, errW_none, errW_some] <;> rfl), by (with_reducible repeat (first | apply Kd.V_alloc | apply Kd.V_drewN | apply Kd.V_drew)); exact Kd.V_mono (Kd.V_far (p := ⟨gb158, 3, none⟩) (Kd.V_far (p := ⟨gb158, 2, none⟩) (Kd.V_far (p := ⟨gb158, 1, none⟩) (Kd.V_far (p := ⟨gb158, 0, none⟩) (Kd.V_mono HO178.out (fun k_ hk => (⟨hk, hk.2.2.1⟩ : _ ∧ k_ ≠ gb158))) (fun _ hk => hk.2) (.slice Ao85 t176.length co85)) (fun _ hk => hk.2) (.slice Ao87 t179.length co87)) (fun _ hk => hk.2) (.int .i64 t182)) (fun _ hk => hk.2) (.int .i64 t183)) (fun _ hk => hk.1.1), by (with_reducible repeat (first | apply Kd.V_alloc | apply Kd.V_drewN | apply Kd.V_drew)); exact Kd.V_mono (Kd.V_far (p := ⟨gb158, 3, none⟩) (Kd.V_far (p := ⟨gb158, 2, none⟩) (Kd.V_far (p := ⟨gb158, 1, none⟩) (Kd.V_far (p := ⟨gb158, 0, none⟩) (Kd.V_mono HO181.out (fun k_ hk => (⟨hk, hk.2.2.1⟩ : _ ∧ k_ ≠ gb158))) (fun _ hk => hk.2) (.slice Ao85 t176.length co85)) (fun _ hk => hk.2) (.slice Ao87 t179.length co87)) (fun _ hk => hk.2) (.int .i64 t182)) (fun _ hk => hk.2) (.int .i64 t183)) (fun _ hk => hk.1.1), by repeat (first | (with_reducible first | exact HB.out | apply below_alloc | apply pw_below_drewN | apply below_drew1 | refine below_set ?_ GE157.out | refine below_set ?_ GE158.out | refine below_set ?_ GE170.out) | exact HB.out)⟩
                    · rw [if_neg c58] at H
                      have c58b0 : (a3 == 1) = false := beq_eq_false_iff_ne.mpr c58
                      have c58b1 : (a3 != 1) = true := bne_iff_ne.mpr c58
                      replace H := Option.bind_eq_some_iff.mp H
                      obtain ⟨⟨t184, t187, t190, t191⟩, A880, H⟩ := H
                      replace H : (some (t184, t187, t190, t191)) = some (r1, r2, r3, r4) := H
                      have A88 := Aside0.mk A880
                      clear A880
                      simp only [Option.some.injEq, Prod.mk.injEq] at H
                      obtain ⟨rfl, rfl, rfl, rfl⟩ := H
                      have hnb89 := NB157_158.out
                      have hnc89 := NB158_157.out
                      have hcz90_0 : wc.cell? ⟨gb157, 0, none⟩ = some (.slice A0_0 l0_0.length c0_0) := (blk_cell BK157.out 0).trans rfl
                      have hcz90_1 : wc.cell? ⟨gb157, 1, none⟩ = some (.slice A0_1 l0_1.length c0_1) := (blk_cell BK157.out 1).trans rfl
                      have hcz90_2 : wc.cell? ⟨gb157, 2, none⟩ = some (.int .i64 a0_2) := (blk_cell BK157.out 2).trans rfl
                      have hcz90_3 : wc.cell? ⟨gb157, 3, none⟩ = some (.int .i64 a0_3) := (blk_cell BK157.out 3).trans rfl
                      have hfz90_0 := blk_frozen BK157.out 0
                      have hfz90_1 := blk_frozen BK157.out 1
                      have hfz90_2 := blk_frozen BK157.out 2
                      have hfz90_3 := blk_frozen BK157.out 3
                      try go_wp2_with (first | ((with_reducible refine gate_callee (f := 36) rfl ?_); refine goesL_ (some 66) rfl rfl Try.func36 (by kernel_rfl) rfl #[.agg #[.slice A0_0 l0_0.length c0_0, .slice A0_1 l0_1.length c0_1, .int .i64 a0_2, .int .i64 a0_3]] rfl (by (try simp only [List.map_toArray, List.map_cons, List.map_nil]); first | done | rfl | (simp only [List.length_drop, List.length_take]; rfl)) ?_; (with_reducible refine (spec_l3Copy.calls _ _ l0_0 _ _ l0_1 a0_2 a0_3 t162 t165 t168 t169 _ ?side1 ?side2 ?side3 ?side4 A52.out).mono ?_); (case side1 => repeat (first | exact (Kd.C_below HR0_0.out HB.out) | (with_reducible refine Kd.C_alloc ?_ _) | (with_reducible refine Kd.C_drewN ?_ _) | (with_reducible refine Kd.C_drew ?_))); (case side2 => exact HC0_0.out); (case side3 => repeat (first | exact (Kd.C_below HR0_1.out HB.out) | (with_reducible refine Kd.C_alloc ?_ _) | (with_reducible refine Kd.C_drewN ?_ _) | (with_reducible refine Kd.C_drew ?_))); (case side4 => exact HC0_1.out); rintro e w91 ⟨v163, v166, rfl, ho0, ho1, hb⟩; refine ⟨_, rfl, ?_⟩; have n0_ := Aside0.mk (Kd.R_lower (Kd.R_newM (M := fun k_ => (w.heap.size ≤ k_)) ho0 (below_size (by repeat (first | (with_reducible first | exact HB.out | apply below_alloc | apply pw_below_drewN | apply below_drew1 | refine below_set ?_ GE157.out | refine below_set ?_ GE158.out) | exact HB.out))) (fun k_ h_ => h_)) (below_size (by repeat (first | (with_reducible first | exact HB.out | apply below_alloc | apply pw_below_drewN | apply below_drew1 | refine below_set ?_ GE157.out | refine below_set ?_ GE158.out) | exact HB.out)))); have n1_ := Aside0.mk (Kd.R_lower (Kd.R_newM (M := fun k_ => (w.heap.size ≤ k_)) ho1 (below_size (by repeat (first | (with_reducible first | exact HB.out | apply below_alloc | apply pw_below_drewN | apply below_drew1 | refine below_set ?_ GE157.out | refine below_set ?_ GE158.out) | exact HB.out))) (fun k_ h_ => h_)) (below_size (by repeat (first | (with_reducible first | exact HB.out | apply below_alloc | apply pw_below_drewN | apply below_drew1 | refine below_set ?_ GE157.out | refine below_set ?_ GE158.out) | exact HB.out)))); have n2_ := Aside0.mk (blk_below (g := gb157) (o := .cells #[.slice A0_0 l0_0.length c0_0, .slice A0_1 l0_1.length c0_1, .int .i64 a0_2, .int .i64 a0_3] 26 (0, 0)) (by (with_reducible repeat (first | refine blk_drewN ?_ _ | refine blk_drew ?_ | refine blk_alloc ?_ _)); exact BK157.out) hb); have n3_ := Aside0.mk (blk_below (g := gb158) (o := .cells #[.slice none 0 0, .slice none 0 0, .int .i64 0, .int .i64 0] 26 (0, 0)) (by (with_reducible repeat (first | refine blk_drewN ?_ _ | refine blk_drew ?_ | refine blk_alloc ?_ _)); exact BK158.out) hb); have n4_ := Aside0.mk (below_step (by repeat (first | (with_reducible first | exact HB.out | apply below_alloc | apply pw_below_drewN | apply below_drew1 | refine below_set ?_ GE157.out | refine below_set ?_ GE158.out) | exact HB.out)) hb); clear BK157; clear BK158; clear HB; have HO164 := n0_; have HO167 := n1_; have BK157 := n2_; have BK158 := n3_; have HB := n4_; clear n0_ n1_ n2_ n3_ n4_; (try clear hb); (try clear hb2); (try clear hk); (try clear hi); (try clear ho0); (try clear ho1)) | ((with_reducible refine gate_dst (N := 12) rfl ?_); refine box_event ?hg (N := 12) ?hd (cs := #[.slice none 0 0, .slice none 0 0, .int .i64 0, .int .i64 0]) (t := 26) ?hr ?_; (case hd => rfl); (case hg => rfl); (case hr => first | (go_simp; done) | (go_simp; rfl)); intro gb170 hg w92 hbox hb; have n0_ := Aside0.mk (Kd.R_below (by (with_reducible repeat (first | apply Kd.R_alloc | apply Kd.R_drewN | apply Kd.R_drew)); exact HO164.out) hb); have n1_ := Aside0.mk (Kd.R_below (by (with_reducible repeat (first | apply Kd.R_alloc | apply Kd.R_drewN | apply Kd.R_drew)); exact HO167.out) hb); have n2_ := Aside0.mk (blk_below (g := gb157) (o := .cells #[.slice A0_0 l0_0.length c0_0, .slice A0_1 l0_1.length c0_1, .int .i64 a0_2, .int .i64 a0_3] 26 (0, 0)) (by (with_reducible repeat (first | refine blk_drewN ?_ _ | refine blk_drew ?_ | refine blk_alloc ?_ _)); exact BK157.out) hb); have n3_ := Aside0.mk (blk_below (g := gb158) (o := .cells #[.slice none 0 0, .slice none 0 0, .int .i64 0, .int .i64 0] 26 (0, 0)) (by (with_reducible repeat (first | refine blk_drewN ?_ _ | refine blk_drew ?_ | refine blk_alloc ?_ _)); exact BK158.out) hb); have n4_ := Aside0.mk (below_step (by repeat (first | (with_reducible first | exact HB.out | apply below_alloc | apply pw_below_drewN | apply below_drew1 | refine below_set ?_ GE157.out | refine below_set ?_ GE158.out) | exact HB.out)) hb); have n5_ := Aside0.mk (hbox); have n6_ := Aside0.mk ((by rw [hg]; exact (below_size (by repeat (first | (with_reducible first | exact HB.out | apply below_alloc | apply pw_below_drewN | apply below_drew1 | refine below_set ?_ GE157.out | refine below_set ?_ GE158.out) | exact HB.out))) : w.heap.size ≤ gb170)); have n7_ := Aside0.mk ((by rw [hg]; exact (below_size (by repeat (first | (with_reducible first | exact HB.out | apply below_alloc | apply pw_below_drewN | apply below_drew1 | refine below_set ?_ GE157.out | refine below_set ?_ GE158.out) | exact HB.out))) : w.heap.size ≤ gb170)); have n8_ := Aside0.mk ((by rw [hg]; exact Nat.ne_of_lt (blk_lt (g := gb157) (o := .cells #[.slice A0_0 l0_0.length c0_0, .slice A0_1 l0_1.length c0_1, .int .i64 a0_2, .int .i64 a0_3] 26 (0, 0)) (by (with_reducible repeat (first | refine blk_drewN ?_ _ | refine blk_drew ?_ | refine blk_alloc ?_ _)); exact BK157.out)) : gb157 ≠ gb170)); have n9_ := Aside0.mk ((by rw [hg]; exact Nat.ne_of_gt (blk_lt (g := gb157) (o := .cells #[.slice A0_0 l0_0.length c0_0, .slice A0_1 l0_1.length c0_1, .int .i64 a0_2, .int .i64 a0_3] 26 (0, 0)) (by (with_reducible repeat (first | refine blk_drewN ?_ _ | refine blk_drew ?_ | refine blk_alloc ?_ _)); exact BK157.out)) : gb170 ≠ gb157)); have n10_ := Aside0.mk ((by rw [hg]; exact Nat.ne_of_lt (blk_lt (g := gb158) (o := .cells #[.slice none 0 0, .slice none 0 0, .int .i64 0, .int .i64 0] 26 (0, 0)) (by (with_reducible repeat (first | refine blk_drewN ?_ _ | refine blk_drew ?_ | refine blk_alloc ?_ _)); exact BK158.out)) : gb158 ≠ gb170)); have n11_ := Aside0.mk ((by rw [hg]; exact Nat.ne_of_gt (blk_lt (g := gb158) (o := .cells #[.slice none 0 0, .slice none 0 0, .int .i64 0, .int .i64 0] 26 (0, 0)) (by (with_reducible repeat (first | refine blk_drewN ?_ _ | refine blk_drew ?_ | refine blk_alloc ?_ _)); exact BK158.out)) : gb170 ≠ gb158)); clear HO164; clear HO167; clear BK157; clear BK158; clear HB; have HO164 := n0_; have HO167 := n1_; have BK157 := n2_; have BK158 := n3_; have HB := n4_; have BK170 := n5_; have GW170 := n6_; have GE170 := n7_; have NB157_170 := n8_; have NB170_157 := n9_; have NB158_170 := n10_; have NB170_158 := n11_; clear n0_ n1_ n2_ n3_ n4_ n5_ n6_ n7_ n8_ n9_ n10_ n11_; clear hb hbox hg; obtain ⟨Ao93, co93, eo93⟩ := Kd.R_slice HO164.out; subst eo93; have hnb94 := NB170_157.out; have hnc94 := NB157_170.out; have hnb95 := NB170_158.out; have hnc95 := NB158_170.out; have hcz96_0 : w92.cell? ⟨gb170, 0, none⟩ = some (.slice none 0 0) := (blk_cell BK170.out 0).trans rfl; have hcz96_1 : w92.cell? ⟨gb170, 1, none⟩ = some (.slice none 0 0) := (blk_cell BK170.out 1).trans rfl; have hcz96_2 : w92.cell? ⟨gb170, 2, none⟩ = some (.int .i64 0) := (blk_cell BK170.out 2).trans rfl; have hcz96_3 : w92.cell? ⟨gb170, 3, none⟩ = some (.int .i64 0) := (blk_cell BK170.out 3).trans rfl; have hfz96_0 := blk_frozen BK170.out 0; have hfz96_1 := blk_frozen BK170.out 1; have hfz96_2 := blk_frozen BK170.out 2; have hfz96_3 := blk_frozen BK170.out 3; obtain ⟨Ao97, co97, eo97⟩ := Kd.R_slice HO167.out; subst eo97))
                      have n0_ : Aside0 (Kd.R (Kd.int .i64) 3 ((((w92.setCell ⟨gb170, 0, none⟩ (.slice Ao93 t162.length co93)).setCell ⟨gb170, 1, none⟩ (.slice Ao97 t165.length co97)).setCell ⟨gb170, 2, none⟩ (.int .i64 t168)).setCell ⟨gb170, 3, none⟩ (.int .i64 t169)) w.heap.size (fun k_ => (w.heap.size ≤ k_) ∧ some k_ ≠ (.slice Ao97 t165.length co97 : Value).ownBlock) (.slice Ao93 t162.length co93) t162) := ⟨by (with_reducible repeat (first | apply Kd.R_alloc | apply Kd.R_drewN | apply Kd.R_drew)); exact Kd.R_mono (Kd.R_far (p := ⟨gb170, 3, none⟩) (Kd.R_far (p := ⟨gb170, 2, none⟩) (Kd.R_far (p := ⟨gb170, 1, none⟩) (Kd.R_far (p := ⟨gb170, 0, none⟩) (Kd.R_types HO164.out BK170.out (by decide)) (fun _ hk => hk.2) (.slice Ao93 t162.length co93)) (fun _ hk => hk.2) (.slice Ao97 t165.length co97)) (fun _ hk => hk.2) (.int .i64 t168)) (fun _ hk => hk.2) (.int .i64 t169)) (fun _ hk => ⟨hk.1.1, hk.1.2⟩)⟩
                      have n1_ : Aside0 (Kd.R (Kd.int .i64) 3 ((((w92.setCell ⟨gb170, 0, none⟩ (.slice Ao93 t162.length co93)).setCell ⟨gb170, 1, none⟩ (.slice Ao97 t165.length co97)).setCell ⟨gb170, 2, none⟩ (.int .i64 t168)).setCell ⟨gb170, 3, none⟩ (.int .i64 t169)) w.heap.size (fun k_ => (w.heap.size ≤ k_) ∧ some k_ ≠ (.slice Ao93 t162.length co93 : Value).ownBlock) (.slice Ao97 t165.length co97) t165) := ⟨by (with_reducible repeat (first | apply Kd.R_alloc | apply Kd.R_drewN | apply Kd.R_drew)); exact Kd.R_mono (Kd.R_far (p := ⟨gb170, 3, none⟩) (Kd.R_far (p := ⟨gb170, 2, none⟩) (Kd.R_far (p := ⟨gb170, 1, none⟩) (Kd.R_far (p := ⟨gb170, 0, none⟩) (Kd.R_types HO167.out BK170.out (by decide)) (fun _ hk => hk.2) (.slice Ao93 t162.length co93)) (fun _ hk => hk.2) (.slice Ao97 t165.length co97)) (fun _ hk => hk.2) (.int .i64 t168)) (fun _ hk => hk.2) (.int .i64 t169)) (fun _ hk => ⟨hk.1.1, hk.1.2⟩)⟩
                      have n2_ : Aside0 (((((w92.setCell ⟨gb170, 0, none⟩ (.slice Ao93 t162.length co93)).setCell ⟨gb170, 1, none⟩ (.slice Ao97 t165.length co97)).setCell ⟨gb170, 2, none⟩ (.int .i64 t168)).setCell ⟨gb170, 3, none⟩ (.int .i64 t169)).heap[gb157]? = some (.cells #[.slice A0_0 l0_0.length c0_0, .slice A0_1 l0_1.length c0_1, .int .i64 a0_2, .int .i64 a0_3] 26 (0, 0))) := ⟨by (with_reducible repeat (first | refine blk_drewN ?_ _ | refine blk_drew ?_ | refine blk_alloc ?_ _)); refine blk_far ?_ NB157_170.out _; (with_reducible repeat (first | refine blk_drewN ?_ _ | refine blk_drew ?_ | refine blk_alloc ?_ _)); refine blk_far ?_ NB157_170.out _; (with_reducible repeat (first | refine blk_drewN ?_ _ | refine blk_drew ?_ | refine blk_alloc ?_ _)); refine blk_far ?_ NB157_170.out _; (with_reducible repeat (first | refine blk_drewN ?_ _ | refine blk_drew ?_ | refine blk_alloc ?_ _)); refine blk_far ?_ NB157_170.out _; (with_reducible repeat (first | refine blk_drewN ?_ _ | refine blk_drew ?_ | refine blk_alloc ?_ _)); exact BK157.out⟩
                      have n3_ : Aside0 (((((w92.setCell ⟨gb170, 0, none⟩ (.slice Ao93 t162.length co93)).setCell ⟨gb170, 1, none⟩ (.slice Ao97 t165.length co97)).setCell ⟨gb170, 2, none⟩ (.int .i64 t168)).setCell ⟨gb170, 3, none⟩ (.int .i64 t169)).heap[gb158]? = some (.cells #[.slice none 0 0, .slice none 0 0, .int .i64 0, .int .i64 0] 26 (0, 0))) := ⟨by (with_reducible repeat (first | refine blk_drewN ?_ _ | refine blk_drew ?_ | refine blk_alloc ?_ _)); refine blk_far ?_ NB158_170.out _; (with_reducible repeat (first | refine blk_drewN ?_ _ | refine blk_drew ?_ | refine blk_alloc ?_ _)); refine blk_far ?_ NB158_170.out _; (with_reducible repeat (first | refine blk_drewN ?_ _ | refine blk_drew ?_ | refine blk_alloc ?_ _)); refine blk_far ?_ NB158_170.out _; (with_reducible repeat (first | refine blk_drewN ?_ _ | refine blk_drew ?_ | refine blk_alloc ?_ _)); refine blk_far ?_ NB158_170.out _; (with_reducible repeat (first | refine blk_drewN ?_ _ | refine blk_drew ?_ | refine blk_alloc ?_ _)); exact BK158.out⟩
                      have n4_ : Aside0 (((((w92.setCell ⟨gb170, 0, none⟩ (.slice Ao93 t162.length co93)).setCell ⟨gb170, 1, none⟩ (.slice Ao97 t165.length co97)).setCell ⟨gb170, 2, none⟩ (.int .i64 t168)).setCell ⟨gb170, 3, none⟩ (.int .i64 t169)).heap[gb170]? = some (.cells #[.slice Ao93 t162.length co93, .slice Ao97 t165.length co97, .int .i64 t168, .int .i64 t169] 26 (0, 0))) := ⟨by (with_reducible repeat (first | refine blk_drewN ?_ _ | refine blk_drew ?_ | refine blk_alloc ?_ _)); refine blk_put (cs := #[.slice Ao93 t162.length co93, .slice Ao97 t165.length co97, .int .i64 t168, .int .i64 0]) ?_ 3 _ rfl; (with_reducible repeat (first | refine blk_drewN ?_ _ | refine blk_drew ?_ | refine blk_alloc ?_ _)); refine blk_put (cs := #[.slice Ao93 t162.length co93, .slice Ao97 t165.length co97, .int .i64 0, .int .i64 0]) ?_ 2 _ rfl; (with_reducible repeat (first | refine blk_drewN ?_ _ | refine blk_drew ?_ | refine blk_alloc ?_ _)); refine blk_put (cs := #[.slice Ao93 t162.length co93, .slice none 0 0, .int .i64 0, .int .i64 0]) ?_ 1 _ rfl; (with_reducible repeat (first | refine blk_drewN ?_ _ | refine blk_drew ?_ | refine blk_alloc ?_ _)); refine blk_put (cs := #[.slice none 0 0, .slice none 0 0, .int .i64 0, .int .i64 0]) ?_ 0 _ rfl; (with_reducible repeat (first | refine blk_drewN ?_ _ | refine blk_drew ?_ | refine blk_alloc ?_ _)); exact BK170.out⟩
                      have n5_ : Aside0 (Below w.heap.size w ((((w92.setCell ⟨gb170, 0, none⟩ (.slice Ao93 t162.length co93)).setCell ⟨gb170, 1, none⟩ (.slice Ao97 t165.length co97)).setCell ⟨gb170, 2, none⟩ (.int .i64 t168)).setCell ⟨gb170, 3, none⟩ (.int .i64 t169))) := ⟨by repeat (first | (with_reducible first | exact HB.out | apply below_alloc | apply pw_below_drewN | apply below_drew1 | refine below_set ?_ GE157.out | refine below_set ?_ GE158.out | refine below_set ?_ GE170.out) | exact HB.out)⟩
                      (try clear HO164)
                      (try clear HO167)
                      (try clear BK157)
                      (try clear BK158)
                      (try clear BK170)
                      (try clear HB)
                      generalize ((((w92.setCell ⟨gb170, 0, none⟩ (.slice Ao93 t162.length co93)).setCell ⟨gb170, 1, none⟩ (.slice Ao97 t165.length co97)).setCell ⟨gb170, 2, none⟩ (.int .i64 t168)).setCell ⟨gb170, 3, none⟩ (.int .i64 t169)) = w98 at n0_ n1_ n2_ n3_ n4_ n5_ ⊢
                      have HO164 := n0_
                      have HO167 := n1_
                      have BK157 := n2_
                      have BK158 := n3_
                      have BK170 := n4_
                      have HB := n5_
                      clear n0_ n1_ n2_ n3_ n4_ n5_
                      have n0_ := Aside0.mk (Kd.R_drew HO164.out)
                      have n1_ := Aside0.mk (Kd.R_drew HO167.out)
                      have n2_ := Aside0.mk (blk_drew BK157.out)
                      have n3_ := Aside0.mk (blk_drew BK158.out)
                      have n4_ := Aside0.mk (blk_drew BK170.out)
                      have n5_ := Aside0.mk (below_drew1 HB.out)
                      clear HO164
                      clear HO167
                      clear BK157
                      clear BK158
                      clear BK170
                      clear HB
                      have HO164 := n0_
                      have HO167 := n1_
                      have BK157 := n2_
                      have BK158 := n3_
                      have BK170 := n4_
                      have HB := n5_
                      clear n0_ n1_ n2_ n3_ n4_ n5_
                      have p171 : 0 ≤ (a1 : Int) := of_decide_eq_true (by first | (with_reducible assumption) | assumption)
                      have q171 : a1 < (t165.length : Int) := of_decide_eq_true (by first | (with_reducible assumption) | assumption)
                      obtain ⟨ad171, e171, hx171_0⟩ := Kd.at_int (Kd.R_reads' HO167.out).2.2 a1 p171 q171
                      cases e171
                      replace p171 := eq_true p171
                      replace q171 := eq_true q171
                      refine start_ (n := 12) (S := fun w' => w'.cell? ⟨gb170, 0, none⟩ = some (.slice Ao93 t162.length co93) ∧ w'.cell? ⟨gb170, 1, none⟩ = some (.slice (some ad171) t165.length co97) ∧ w'.cell? ⟨gb170, 2, none⟩ = some (.int .i64 t168) ∧ w'.cell? ⟨gb170, 3, none⟩ = some (.int .i64 t169) ∧ w'.cell? (ad171.add (a1).toNat) = some (.int .i64 (rd t165 a1))) (ds := [11]) #[false, false, false, false, false, false, false, false, false, false, false, false] (by kernel_rfl) rfl rfl ⟨(blk_cell BK170.out 0).trans rfl, (blk_cell BK170.out 1).trans rfl, (blk_cell BK170.out 2).trans rfl, (blk_cell BK170.out 3).trans rfl, hx171_0⟩ (fun hHeld => ?_); refine with_tabW spec_Slice.tab7 spec_Slice.bits7 (fun HT_ HW_ => ?_)
                      generalize w98.drew = w99 at HO164 HO167 BK157 BK158 BK170 HB hx171_0 hHeld ⊢
                      refine pure_ (i := 0) (N := some 67) (v := ?_) (a' := ?_) #[true, false, false, false, false, false, false, false, false, false, false, false] rfl rfl (any_of HT_.out (by kernel_rfl)) (fun _ _ _ h => h) (Or.inl ⟨by rfl, ?_⟩) ?_ ?_
                      rotate_left
                      · intro w'
                        go_simp
                        with_reducible rfl
                      rotate_left
                      · simp only [Act.put, List.setIfInBounds_toArray, List.set_cons_zero, List.set_cons_succ, i64_w, i32_w]
                        rfl
                      refine pure_ (i := 2) (N := some 69) (v := ?_) (a' := ?_) #[true, false, true, false, false, false, false, false, false, false, false, false] rfl rfl (any_of HT_.out (by kernel_rfl)) (fun _ _ _ h => h) (Or.inl ⟨by rfl, ?_⟩) ?_ ?_
                      rotate_left
                      · intro w'
                        go_simp
                        with_reducible rfl
                      rotate_left
                      · simp only [Act.put, List.setIfInBounds_toArray, List.set_cons_zero, List.set_cons_succ, i64_w, i32_w]
                        rfl
                      refine pure_ (i := 3) (N := some 70) (v := ?_) (a' := ?_) #[true, false, true, true, false, false, false, false, false, false, false, false] rfl rfl (any_of HT_.out (by kernel_rfl)) (fun _ _ _ h => h) (Or.inl ⟨by rfl, ?_⟩) ?_ ?_
                      rotate_left
                      · intro w'
                        go_simp
                        with_reducible rfl
                      rotate_left
                      · simp only [Act.put, List.setIfInBounds_toArray, List.set_cons_zero, List.set_cons_succ, i64_w, i32_w]
                        rfl
                      refine pure_ (i := 5) (N := some 72) (v := ?_) (a' := ?_) #[true, false, true, true, false, true, false, false, false, false, false, false] rfl rfl (any_of HT_.out (by kernel_rfl)) (fun _ _ _ h => h) (Or.inl ⟨by rfl, ?_⟩) ?_ ?_
                      rotate_left
                      · intro w'
                        go_simp
                        with_reducible rfl
                      rotate_left
                      · simp only [Act.put, List.setIfInBounds_toArray, List.set_cons_zero, List.set_cons_succ, i64_w, i32_w]
                        rfl
                      refine take_ (i := 1) (N := some 68) (v := ?_) (a' := ?_) #[true, true, true, true, false, true, false, false, false, false, false, false] rfl rfl (take_ofW HT_.out HW_.out (by kernel_rfl)) (fun _ _ _ h => h) (Or.inl ⟨by rfl, ?_⟩) hHeld ?_ ?_
                      rotate_left
                      · rintro w' ⟨s0, s1, s2, s3, s4⟩
                        go_simp
                        with_reducible rfl
                      rotate_left
                      · simp only [Act.put, List.setIfInBounds_toArray, List.set_cons_zero, List.set_cons_succ, i64_w, i32_w]
                        rfl
                      refine take_ (i := 4) (N := some 71) (v := ?_) (a' := ?_) #[true, true, true, true, true, true, false, false, false, false, false, false] rfl rfl (take_ofW HT_.out HW_.out (by kernel_rfl)) (fun _ _ _ h => h) (Or.inl ⟨by rfl, ?_⟩) hHeld ?_ ?_
                      rotate_left
                      · rintro w' ⟨s0, s1, s2, s3, s4⟩
                        go_simp
                        with_reducible rfl
                      rotate_left
                      · simp only [Act.put, List.setIfInBounds_toArray, List.set_cons_zero, List.set_cons_succ, i64_w, i32_w]
                        rfl
                      refine pure_ (i := 6) (N := some 73) (v := ?_) (a' := ?_) #[true, true, true, true, true, true, true, false, false, false, false, false] rfl rfl (any_of HT_.out (by kernel_rfl)) (fun _ _ _ h => h) (Or.inl ⟨by rfl, ?_⟩) ?_ ?_
                      rotate_left
                      · intro w'
                        go_simp
                        with_reducible rfl
                      rotate_left
                      · simp only [Act.put, List.setIfInBounds_toArray, List.set_cons_zero, List.set_cons_succ, i64_w, i32_w]
                        rfl
                      refine take_ (i := 7) (N := some 74) (v := ?_) (a' := ?_) #[true, true, true, true, true, true, true, true, false, false, false, false] rfl rfl (take_ofW HT_.out HW_.out (by kernel_rfl)) (fun _ _ _ h => h) (Or.inl ⟨by rfl, ?_⟩) hHeld ?_ ?_
                      rotate_left
                      · rintro w' ⟨s0, s1, s2, s3, s4⟩
                        go_simp
                        with_reducible rfl
                      rotate_left
                      · simp only [Act.put, List.setIfInBounds_toArray, List.set_cons_zero, List.set_cons_succ, i64_w, i32_w]
                        rfl
                      refine pure_ (i := 8) (N := some 75) (v := ?_) (a' := ?_) #[true, true, true, true, true, true, true, true, true, false, false, false] rfl rfl (any_of HT_.out (by kernel_rfl)) (fun _ _ _ h => h) (Or.inl ⟨by rfl, ?_⟩) ?_ ?_
                      rotate_left
                      · intro w'
                        go_simp
                        with_reducible rfl
                      rotate_left
                      · simp only [Act.put, List.setIfInBounds_toArray, List.set_cons_zero, List.set_cons_succ, i64_w, i32_w]
                        rfl
                      refine pure_ (i := 9) (N := some 76) (v := ?_) (a' := ?_) #[true, true, true, true, true, true, true, true, true, true, false, false] rfl rfl (any_of HT_.out (by kernel_rfl)) (fun _ _ _ h => h) (Or.inl ⟨by rfl, ?_⟩) ?_ ?_
                      rotate_left
                      · intro w'
                        go_simp
                        with_reducible rfl
                      rotate_left
                      · simp only [Act.put, List.setIfInBounds_toArray, List.set_cons_zero, List.set_cons_succ, i64_w, i32_w]
                        rfl
                      refine pure_ (i := 10) (N := some 77) (v := ?_) (a' := ?_) #[true, true, true, true, true, true, true, true, true, true, true, false] rfl rfl (any_of HT_.out (by kernel_rfl)) (fun _ _ _ h => h) (Or.inl ⟨by rfl, ?_⟩) ?_ ?_
                      rotate_left
                      · intro w'
                        go_simp
                        with_reducible rfl
                      rotate_left
                      · simp only [Act.put, List.setIfInBounds_toArray, List.set_cons_zero, List.set_cons_succ, i64_w, i32_w]
                        rfl
                      refine last_ (i := 11) (N := none) #[true, true, true, true, true, true, true, true, true, true, true, true] rfl rfl (one_of HT_.out (by kernel_rfl)) (by decide) (fun K hK => ?_)
                      have hs100 : w99.cell? ⟨gb170, 2, none⟩ = some (.int .i64 t168) := (blk_cell BK170.out 2).trans rfl
                      have hfs100 := blk_frozen BK170.out 2
                      have hns100_0 := NB157_170.out
                      have hns100_1 := NB158_170.out
                      have hms100_0 := NB170_157.out
                      have hms100_1 := NB170_158.out
                      refine skip_ (w1 := ?_) (by rfl) rfl ?_ ?_
                      rotate_left
                      · go_simp
                        rfl
                      refine hK.out _ _ ?_
                      clear hK K
                      refine done_ (done_of HT_.out (by kernel_rfl)) ?_
                      have n0_ : Aside0 (Kd.R (Kd.int .i64) 3 (w99.setCell ⟨gb170, 2, none⟩ (.int .i64 (wrap64 (t168 + (wrap64 (a2 * (rd t165 a1))))))) w.heap.size (fun k_ => (w.heap.size ≤ k_) ∧ some k_ ≠ (.slice (some ad171) t165.length co97 : Value).ownBlock) (.slice Ao93 t162.length co93) t162) := ⟨by (with_reducible repeat (first | apply Kd.R_alloc | apply Kd.R_drewN | apply Kd.R_drew)); exact Kd.R_mono (Kd.R_far (p := ⟨gb170, 2, none⟩) (Kd.R_types HO164.out BK170.out (by decide)) (fun _ hk => hk.2) (.int .i64 (wrap64 (t168 + (wrap64 (a2 * (rd t165 a1))))))) (fun _ hk => ⟨hk.1.1, hk.1.2⟩)⟩
                      have n1_ : Aside0 (Kd.R (Kd.int .i64) 3 (w99.setCell ⟨gb170, 2, none⟩ (.int .i64 (wrap64 (t168 + (wrap64 (a2 * (rd t165 a1))))))) w.heap.size (fun k_ => (w.heap.size ≤ k_) ∧ some k_ ≠ (.slice Ao93 t162.length co93 : Value).ownBlock) (.slice (some ad171) t165.length co97) t165) := ⟨by (with_reducible repeat (first | apply Kd.R_alloc | apply Kd.R_drewN | apply Kd.R_drew)); exact Kd.R_mono (Kd.R_far (p := ⟨gb170, 2, none⟩) (Kd.R_types HO167.out BK170.out (by decide)) (fun _ hk => hk.2) (.int .i64 (wrap64 (t168 + (wrap64 (a2 * (rd t165 a1))))))) (fun _ hk => ⟨hk.1.1, hk.1.2⟩)⟩
                      have n2_ : Aside0 ((w99.setCell ⟨gb170, 2, none⟩ (.int .i64 (wrap64 (t168 + (wrap64 (a2 * (rd t165 a1))))))).heap[gb157]? = some (.cells #[.slice A0_0 l0_0.length c0_0, .slice A0_1 l0_1.length c0_1, .int .i64 a0_2, .int .i64 a0_3] 26 (0, 0))) := ⟨by (with_reducible repeat (first | refine blk_drewN ?_ _ | refine blk_drew ?_ | refine blk_alloc ?_ _)); refine blk_far ?_ NB157_170.out _; (with_reducible repeat (first | refine blk_drewN ?_ _ | refine blk_drew ?_ | refine blk_alloc ?_ _)); exact BK157.out⟩
                      have n3_ : Aside0 ((w99.setCell ⟨gb170, 2, none⟩ (.int .i64 (wrap64 (t168 + (wrap64 (a2 * (rd t165 a1))))))).heap[gb158]? = some (.cells #[.slice none 0 0, .slice none 0 0, .int .i64 0, .int .i64 0] 26 (0, 0))) := ⟨by (with_reducible repeat (first | refine blk_drewN ?_ _ | refine blk_drew ?_ | refine blk_alloc ?_ _)); refine blk_far ?_ NB158_170.out _; (with_reducible repeat (first | refine blk_drewN ?_ _ | refine blk_drew ?_ | refine blk_alloc ?_ _)); exact BK158.out⟩
                      have n4_ : Aside0 ((w99.setCell ⟨gb170, 2, none⟩ (.int .i64 (wrap64 (t168 + (wrap64 (a2 * (rd t165 a1))))))).heap[gb170]? = some (.cells #[.slice Ao93 t162.length co93, .slice (some ad171) t165.length co97, .int .i64 (wrap64 (t168 + (wrap64 (a2 * (rd t165 a1))))), .int .i64 t169] 26 (0, 0))) := ⟨by (with_reducible repeat (first | refine blk_drewN ?_ _ | refine blk_drew ?_ | refine blk_alloc ?_ _)); refine blk_put (cs := #[.slice Ao93 t162.length co93, .slice (some ad171) t165.length co97, .int .i64 t168, .int .i64 t169]) ?_ 2 _ rfl; (with_reducible repeat (first | refine blk_drewN ?_ _ | refine blk_drew ?_ | refine blk_alloc ?_ _)); exact BK170.out⟩
                      have n5_ : Aside0 (Below w.heap.size w (w99.setCell ⟨gb170, 2, none⟩ (.int .i64 (wrap64 (t168 + (wrap64 (a2 * (rd t165 a1)))))))) := ⟨by repeat (first | (with_reducible first | exact HB.out | apply below_alloc | apply pw_below_drewN | apply below_drew1 | refine below_set ?_ GE157.out | refine below_set ?_ GE158.out | refine below_set ?_ GE170.out) | exact HB.out)⟩
                      (try clear HO164)
                      (try clear HO167)
                      (try clear BK157)
                      (try clear BK158)
                      (try clear BK170)
                      (try clear HB)
                      generalize (w99.setCell ⟨gb170, 2, none⟩ (.int .i64 (wrap64 (t168 + (wrap64 (a2 * (rd t165 a1))))))) = w101 at n0_ n1_ n2_ n3_ n4_ n5_ ⊢
                      have HO164 := n0_
                      have HO167 := n1_
                      have BK157 := n2_
                      have BK158 := n3_
                      have BK170 := n4_
                      have HB := n5_
                      clear n0_ n1_ n2_ n3_ n4_ n5_
                      have hcz102_0 : w101.cell? ⟨gb170, 0, none⟩ = some (.slice Ao93 t162.length co93) := (blk_cell BK170.out 0).trans rfl
                      have hcz102_1 : w101.cell? ⟨gb170, 1, none⟩ = some (.slice (some ad171) t165.length co97) := (blk_cell BK170.out 1).trans rfl
                      have hcz102_2 : w101.cell? ⟨gb170, 2, none⟩ = some (.int .i64 (wrap64 (t168 + (wrap64 (a2 * (rd t165 a1)))))) := (blk_cell BK170.out 2).trans rfl
                      have hcz102_3 : w101.cell? ⟨gb170, 3, none⟩ = some (.int .i64 t169) := (blk_cell BK170.out 3).trans rfl
                      have hfz102_0 := blk_frozen BK170.out 0
                      have hfz102_1 := blk_frozen BK170.out 1
                      have hfz102_2 := blk_frozen BK170.out 2
                      have hfz102_3 := blk_frozen BK170.out 3
                      have p56 : 0 ≤ (a1 : Int) := of_decide_eq_true (by first | (with_reducible assumption) | assumption)
                      have q56 : (a1 : Int) < ((t162.length : Int) : Int) := of_decide_eq_true (by first | (with_reducible assumption) | assumption)
                      obtain ⟨go56, co56, eo56, gb56, gl56, cl56, HG56⟩ := Kd.R_form HO164.out (by omega)
                      (first | cases eo56 | (injection eo56 with ea_ en_ ec_; (first | subst ea_ | (injection ea_ with ea_; subst ea_)); subst ec_; clear en_))
                      have GB56 := Aside0.mk gb56
                      have GG56 := Aside0.mk HG56
                      clear gb56 gl56 HG56
                      obtain ⟨hx56_0, hf56_0⟩ := Kd.R_celln 0 HO164.out (a1 : Int) p56 q56
                      replace p56 := eq_true p56
                      replace q56 := eq_true q56
                      obtain ⟨hy103_, hz103_⟩ := Kd.R_celln 0 HO164.out (a1 : Int) (of_decide_eq_true (by first | (with_reducible assumption) | assumption)) (of_decide_eq_true (by first | (with_reducible assumption) | assumption))
                      have HP103 := Kd.R_putg HO164.out (a1 : Int) a3
                      try go_wp2_with (first | ((with_reducible refine gate_store (t := 3) (p := 82) rfl ?_); refine store_event (t := 3) (p := 82) (v := ?vo_w104) (w1 := (w101.setCell ⟨go56, (a1 : Int).toNat, none⟩ (.int .i64 a3))) ?hg ?ho ?hn ?hr ?_; (case ho => rfl); (case hg => rfl); (case hn => rfl); (case hr => first | (go_simp; done) | (go_simp; rfl)); intro w104 hw; have hg : w101.grownBy w104 (some go56) := (by rw [hw]; exact HP103.2); have hp_ : Kd.R (Kd.int .i64) 3 w104 w.heap.size (fun k_ => (w.heap.size ≤ k_) ∧ some k_ ≠ (.slice (some ad171) t165.length co97 : Value).ownBlock) (.slice (some ⟨go56, 0, none⟩) t162.length co93) y172 := (by rw [hw, Ny172.out]; exact HP103.1); clear HP103; have n0_ := Aside0.mk (blk_grown (g := gb157) (o := .cells #[.slice A0_0 l0_0.length c0_0, .slice A0_1 l0_1.length c0_1, .int .i64 a0_2, .int .i64 a0_3] 26 (0, 0)) (by (with_reducible repeat (first | refine blk_drewN ?_ _ | refine blk_drew ?_ | refine blk_alloc ?_ _)); exact BK157.out) hg (Kd.R_ne HO164.out BK157.out (by decide))); have n1_ := Aside0.mk (blk_grown (g := gb158) (o := .cells #[.slice none 0 0, .slice none 0 0, .int .i64 0, .int .i64 0] 26 (0, 0)) (by (with_reducible repeat (first | refine blk_drewN ?_ _ | refine blk_drew ?_ | refine blk_alloc ?_ _)); exact BK158.out) hg (Kd.R_ne HO164.out BK158.out (by decide))); have n2_ := Aside0.mk (hp_); have n3_ := Aside0.mk (Kd.R_after (v := (.slice (some ⟨go56, 0, none⟩) t162.length co93)) (v1 := (.slice (some ⟨go56, 0, none⟩) t162.length co93)) (ok := (fun k_ => (w.heap.size ≤ k_))) (by (with_reducible repeat (first | apply Kd.R_alloc | apply Kd.R_drewN | apply Kd.R_drew)); exact HO167.out) hg (.inl rfl)); have n4_ := Aside0.mk (blk_grown (g := gb170) (o := .cells #[.slice (some ⟨go56, 0, none⟩) t162.length co93, .slice (some ad171) t165.length co97, .int .i64 (wrap64 (t168 + (wrap64 (a2 * (rd t165 a1))))), .int .i64 t169] 26 (0, 0)) (by (with_reducible repeat (first | refine blk_drewN ?_ _ | refine blk_drew ?_ | refine blk_alloc ?_ _)); exact BK170.out) hg (Kd.R_ne HO164.out BK170.out (by decide))); have n5_ := Aside0.mk ((by rw [hw]; exact below_set (HB.out) GB56.out : Below w.heap.size w w104)); clear BK157; clear BK158; clear HO164; clear HO167; clear BK170; clear HB; have BK157 := n0_; have BK158 := n1_; have HO164 := n2_; have HO167 := n3_; have BK170 := n4_; have HB := n5_; clear n0_ n1_ n2_ n3_ n4_ n5_; clear hg hw hp_))
                      have n0_ := Aside0.mk (Kd.R_drew HO164.out)
                      have n1_ := Aside0.mk (Kd.R_drew HO167.out)
                      have n2_ := Aside0.mk (blk_drew BK157.out)
                      have n3_ := Aside0.mk (blk_drew BK158.out)
                      have n4_ := Aside0.mk (blk_drew BK170.out)
                      have n5_ := Aside0.mk (below_drew1 HB.out)
                      clear HO164
                      clear HO167
                      clear BK157
                      clear BK158
                      clear BK170
                      clear HB
                      have HO164 := n0_
                      have HO167 := n1_
                      have BK157 := n2_
                      have BK158 := n3_
                      have BK170 := n4_
                      have HB := n5_
                      clear n0_ n1_ n2_ n3_ n4_ n5_
                      have p173 : 0 ≤ (a1 : Int) := of_decide_eq_true (by first | (with_reducible assumption) | assumption)
                      have q173 : a1 < (t165.length : Int) := of_decide_eq_true (by first | (with_reducible assumption) | assumption)
                      obtain ⟨ad173, e173, hx173_0⟩ := Kd.at_int (Kd.R_reads' HO167.out).2.2 a1 p173 q173
                      obtain rfl : ad171 = ad173 := (by injection e173)
                      replace p173 := eq_true p173
                      replace q173 := eq_true q173
                      have p57 : 0 ≤ (a1 : Int) := of_decide_eq_true (by first | (with_reducible assumption) | assumption)
                      have q57 : (a1 : Int) < ((t165.length : Int) : Int) := of_decide_eq_true (by first | (with_reducible assumption) | assumption)
                      obtain ⟨go57, co57, eo57, gb57, gl57, cl57, HG57⟩ := Kd.R_form HO167.out (by omega)
                      (first | cases eo57 | (injection eo57 with ea_ en_ ec_; (first | subst ea_ | (injection ea_ with ea_; subst ea_)); subst ec_; clear en_))
                      have GB57 := Aside0.mk gb57
                      have GG57 := Aside0.mk HG57
                      clear gb57 gl57 HG57
                      (first | simp only [add_plain] at hx171_0 | skip)
                      (first | simp only [add_plain] at hx173_0 | skip)
                      obtain ⟨hx57_0, hf57_0⟩ := Kd.R_celln 0 HO167.out (a1 : Int) p57 q57
                      replace p57 := eq_true p57
                      replace q57 := eq_true q57
                      have HP106 := Kd.R_putn HO167.out (a1 : Int) (wrap64 ((rd t165 a1) * a4))
                      rw [← Ny174.out] at HP106
                      have HQ106 := Aside0.mk HP106
                      clear HP106
                      refine start_ (n := 12) (S := fun w' => w'.cell? ⟨gb170, 0, none⟩ = some (.slice (some ⟨go56, 0, none⟩) t162.length co93) ∧ w'.cell? ⟨gb170, 1, none⟩ = some (.slice (some ⟨go57, 0, none⟩) t165.length co97) ∧ w'.cell? ⟨gb170, 2, none⟩ = some (.int .i64 (wrap64 (t168 + (wrap64 (a2 * (rd t165 a1)))))) ∧ w'.cell? ⟨gb170, 3, none⟩ = some (.int .i64 t169) ∧ w'.cell? ⟨go57, (a1).toNat, none⟩ = some (.int .i64 (rd t165 a1))) (ds := [11]) #[false, false, false, false, false, false, false, false, false, false, false, false] (by kernel_rfl) rfl rfl ⟨(blk_cell BK170.out 0).trans rfl, (blk_cell BK170.out 1).trans rfl, (blk_cell BK170.out 2).trans rfl, (blk_cell BK170.out 3).trans rfl, hx173_0⟩ (fun hHeld => ?_); refine with_tabW spec_Slice.tab9 spec_Slice.bits9 (fun HT_ HW_ => ?_)
                      generalize w104.drew = w105 at HO164 HO167 BK157 BK158 BK170 HB GG57 HQ106 hf57_0 hx171_0 hx173_0 hx57_0 hHeld ⊢
                      refine pure_ (i := 0) (N := some 83) (v := ?_) (a' := ?_) #[true, false, false, false, false, false, false, false, false, false, false, false] rfl rfl (any_of HT_.out (by kernel_rfl)) (fun _ _ _ h => h) (Or.inl ⟨by rfl, ?_⟩) ?_ ?_
                      rotate_left
                      · intro w'
                        go_simp
                        with_reducible rfl
                      rotate_left
                      · simp only [Act.put, List.setIfInBounds_toArray, List.set_cons_zero, List.set_cons_succ, i64_w, i32_w]
                        rfl
                      refine pure_ (i := 2) (N := some 85) (v := ?_) (a' := ?_) #[true, false, true, false, false, false, false, false, false, false, false, false] rfl rfl (any_of HT_.out (by kernel_rfl)) (fun _ _ _ h => h) (Or.inl ⟨by rfl, ?_⟩) ?_ ?_
                      rotate_left
                      · intro w'
                        go_simp
                        with_reducible rfl
                      rotate_left
                      · simp only [Act.put, List.setIfInBounds_toArray, List.set_cons_zero, List.set_cons_succ, i64_w, i32_w]
                        rfl
                      refine pure_ (i := 3) (N := some 86) (v := ?_) (a' := ?_) #[true, false, true, true, false, false, false, false, false, false, false, false] rfl rfl (any_of HT_.out (by kernel_rfl)) (fun _ _ _ h => h) (Or.inl ⟨by rfl, ?_⟩) ?_ ?_
                      rotate_left
                      · intro w'
                        go_simp
                        with_reducible rfl
                      rotate_left
                      · simp only [Act.put, List.setIfInBounds_toArray, List.set_cons_zero, List.set_cons_succ, i64_w, i32_w]
                        rfl
                      refine pure_ (i := 5) (N := some 88) (v := ?_) (a' := ?_) #[true, false, true, true, false, true, false, false, false, false, false, false] rfl rfl (any_of HT_.out (by kernel_rfl)) (fun _ _ _ h => h) (Or.inl ⟨by rfl, ?_⟩) ?_ ?_
                      rotate_left
                      · intro w'
                        go_simp
                        with_reducible rfl
                      rotate_left
                      · simp only [Act.put, List.setIfInBounds_toArray, List.set_cons_zero, List.set_cons_succ, i64_w, i32_w]
                        rfl
                      refine pure_ (i := 8) (N := some 91) (v := ?_) (a' := ?_) #[true, false, true, true, false, true, false, false, true, false, false, false] rfl rfl (any_of HT_.out (by kernel_rfl)) (fun _ _ _ h => h) (Or.inl ⟨by rfl, ?_⟩) ?_ ?_
                      rotate_left
                      · intro w'
                        go_simp
                        with_reducible rfl
                      rotate_left
                      · simp only [Act.put, List.setIfInBounds_toArray, List.set_cons_zero, List.set_cons_succ, i64_w, i32_w]
                        rfl
                      refine take_ (i := 1) (N := some 84) (v := ?_) (a' := ?_) #[true, true, true, true, false, true, false, false, true, false, false, false] rfl rfl (take_ofW HT_.out HW_.out (by kernel_rfl)) (fun _ _ _ h => h) (Or.inl ⟨by rfl, ?_⟩) hHeld ?_ ?_
                      rotate_left
                      · rintro w' ⟨s0, s1, s2, s3, s4⟩
                        go_simp
                        with_reducible rfl
                      rotate_left
                      · simp only [Act.put, List.setIfInBounds_toArray, List.set_cons_zero, List.set_cons_succ, i64_w, i32_w]
                        rfl
                      refine take_ (i := 4) (N := some 87) (v := ?_) (a' := ?_) #[true, true, true, true, true, true, false, false, true, false, false, false] rfl rfl (take_ofW HT_.out HW_.out (by kernel_rfl)) (fun _ _ _ h => h) (Or.inl ⟨by rfl, ?_⟩) hHeld ?_ ?_
                      rotate_left
                      · rintro w' ⟨s0, s1, s2, s3, s4⟩
                        go_simp
                        with_reducible rfl
                      rotate_left
                      · simp only [Act.put, List.setIfInBounds_toArray, List.set_cons_zero, List.set_cons_succ, i64_w, i32_w]
                        rfl
                      refine pure_ (i := 6) (N := some 89) (v := ?_) (a' := ?_) #[true, true, true, true, true, true, true, false, true, false, false, false] rfl rfl (any_of HT_.out (by kernel_rfl)) (fun _ _ _ h => h) (Or.inl ⟨by rfl, ?_⟩) ?_ ?_
                      rotate_left
                      · intro w'
                        go_simp
                        with_reducible rfl
                      rotate_left
                      · simp only [Act.put, List.setIfInBounds_toArray, List.set_cons_zero, List.set_cons_succ, i64_w, i32_w]
                        rfl
                      refine take_ (i := 7) (N := some 90) (v := ?_) (a' := ?_) #[true, true, true, true, true, true, true, true, true, false, false, false] rfl rfl (take_ofW HT_.out HW_.out (by kernel_rfl)) (fun _ _ _ h => h) (Or.inl ⟨by rfl, ?_⟩) hHeld ?_ ?_
                      rotate_left
                      · rintro w' ⟨s0, s1, s2, s3, s4⟩
                        go_simp
                        with_reducible rfl
                      rotate_left
                      · simp only [Act.put, List.setIfInBounds_toArray, List.set_cons_zero, List.set_cons_succ, i64_w, i32_w]
                        rfl
                      refine pure_ (i := 9) (N := some 92) (v := ?_) (a' := ?_) #[true, true, true, true, true, true, true, true, true, true, false, false] rfl rfl (any_of HT_.out (by kernel_rfl)) (fun _ _ _ h => h) (Or.inl ⟨by rfl, ?_⟩) ?_ ?_
                      rotate_left
                      · intro w'
                        go_simp
                        with_reducible rfl
                      rotate_left
                      · simp only [Act.put, List.setIfInBounds_toArray, List.set_cons_zero, List.set_cons_succ, i64_w, i32_w]
                        rfl
                      refine pure_ (i := 10) (N := some 93) (v := ?_) (a' := ?_) #[true, true, true, true, true, true, true, true, true, true, true, false] rfl rfl (any_of HT_.out (by kernel_rfl)) (fun _ _ _ h => h) (Or.inl ⟨by rfl, ?_⟩) ?_ ?_
                      rotate_left
                      · intro w'
                        go_simp
                        with_reducible rfl
                      rotate_left
                      · simp only [Act.put, List.setIfInBounds_toArray, List.set_cons_zero, List.set_cons_succ, i64_w, i32_w]
                        rfl
                      refine last_ (i := 11) (N := none) #[true, true, true, true, true, true, true, true, true, true, true, true] rfl rfl (one_of HT_.out (by kernel_rfl)) (by decide) (fun K hK => ?_)
                      refine skip_ (w1 := ?_) (by rfl) rfl ?_ ?_
                      rotate_left
                      · go_simp
                        rfl
                      refine hK.out _ _ ?_
                      clear hK K
                      refine done_ (done_of HT_.out (by kernel_rfl)) ?_
                      have n0_ : Aside0 (Kd.R (Kd.int .i64) 3 (w105.setCell ⟨go57, (a1 : Int).toNat, none⟩ (.int .i64 (wrap64 ((rd t165 a1) * a4)))) w.heap.size (fun k_ => (w.heap.size ≤ k_) ∧ some k_ ≠ (.slice (some ⟨go57, 0, none⟩) t165.length co97 : Value).ownBlock) (.slice (some ⟨go56, 0, none⟩) t162.length co93) y172) := ⟨by (with_reducible repeat (first | apply Kd.R_alloc | apply Kd.R_drewN | apply Kd.R_drew)); exact Kd.R_mono (Kd.R_far (p := ⟨go57, (a1 : Int).toNat, none⟩) (Kd.R_mono HO164.out (fun k_ hk => (⟨hk, fun e_ => hk.2 (by rw [e_]; rfl)⟩ : _ ∧ k_ ≠ go57))) (fun _ hk => hk.2) (.int .i64 (wrap64 ((rd t165 a1) * a4)))) (fun _ hk => ⟨hk.1.1, hk.1.2⟩)⟩
                      have n1_ : Aside0 (Kd.R (Kd.int .i64) 3 (w105.setCell ⟨go57, (a1 : Int).toNat, none⟩ (.int .i64 (wrap64 ((rd t165 a1) * a4)))) w.heap.size (fun k_ => (w.heap.size ≤ k_) ∧ some k_ ≠ (.slice (some ⟨go56, 0, none⟩) t162.length co93 : Value).ownBlock) (.slice (some ⟨go57, 0, none⟩) t165.length co97) y174) := ⟨by (with_reducible repeat (first | apply Kd.R_alloc | apply Kd.R_drewN | apply Kd.R_drew)); exact HQ106.out⟩
                      have n2_ : Aside0 ((w105.setCell ⟨go57, (a1 : Int).toNat, none⟩ (.int .i64 (wrap64 ((rd t165 a1) * a4)))).heap[gb157]? = some (.cells #[.slice A0_0 l0_0.length c0_0, .slice A0_1 l0_1.length c0_1, .int .i64 a0_2, .int .i64 a0_3] 26 (0, 0))) := ⟨by (with_reducible repeat (first | refine blk_drewN ?_ _ | refine blk_drew ?_ | refine blk_alloc ?_ _)); refine blk_far ?_ (by have h_ := Kd.R_ne HO167.out BK157.out (by decide); intro e_; exact h_ (by rw [e_]; rfl)) _; (with_reducible repeat (first | refine blk_drewN ?_ _ | refine blk_drew ?_ | refine blk_alloc ?_ _)); exact BK157.out⟩
                      have n3_ : Aside0 ((w105.setCell ⟨go57, (a1 : Int).toNat, none⟩ (.int .i64 (wrap64 ((rd t165 a1) * a4)))).heap[gb158]? = some (.cells #[.slice none 0 0, .slice none 0 0, .int .i64 0, .int .i64 0] 26 (0, 0))) := ⟨by (with_reducible repeat (first | refine blk_drewN ?_ _ | refine blk_drew ?_ | refine blk_alloc ?_ _)); refine blk_far ?_ (by have h_ := Kd.R_ne HO167.out BK158.out (by decide); intro e_; exact h_ (by rw [e_]; rfl)) _; (with_reducible repeat (first | refine blk_drewN ?_ _ | refine blk_drew ?_ | refine blk_alloc ?_ _)); exact BK158.out⟩
                      have n4_ : Aside0 ((w105.setCell ⟨go57, (a1 : Int).toNat, none⟩ (.int .i64 (wrap64 ((rd t165 a1) * a4)))).heap[gb170]? = some (.cells #[.slice (some ⟨go56, 0, none⟩) t162.length co93, .slice (some ⟨go57, 0, none⟩) t165.length co97, .int .i64 (wrap64 (t168 + (wrap64 (a2 * (rd t165 a1))))), .int .i64 t169] 26 (0, 0))) := ⟨by (with_reducible repeat (first | refine blk_drewN ?_ _ | refine blk_drew ?_ | refine blk_alloc ?_ _)); refine blk_far ?_ (by have h_ := Kd.R_ne HO167.out BK170.out (by decide); intro e_; exact h_ (by rw [e_]; rfl)) _; (with_reducible repeat (first | refine blk_drewN ?_ _ | refine blk_drew ?_ | refine blk_alloc ?_ _)); exact BK170.out⟩
                      have n5_ : Aside0 (Below w.heap.size w (w105.setCell ⟨go57, (a1 : Int).toNat, none⟩ (.int .i64 (wrap64 ((rd t165 a1) * a4))))) := ⟨by repeat (first | (with_reducible first | exact HB.out | apply below_alloc | apply pw_below_drewN | apply below_drew1 | refine below_set ?_ GB57.out | refine below_set ?_ GE157.out | refine below_set ?_ GE158.out | refine below_set ?_ GE170.out) | exact HB.out)⟩
                      (try clear HO164)
                      (try clear HO167)
                      (try clear BK157)
                      (try clear BK158)
                      (try clear BK170)
                      (try clear HB)
                      generalize (w105.setCell ⟨go57, (a1 : Int).toNat, none⟩ (.int .i64 (wrap64 ((rd t165 a1) * a4)))) = w107 at n0_ n1_ n2_ n3_ n4_ n5_ ⊢
                      have HO164 := n0_
                      have HO167 := n1_
                      have BK157 := n2_
                      have BK158 := n3_
                      have BK170 := n4_
                      have HB := n5_
                      clear n0_ n1_ n2_ n3_ n4_ n5_
                      have hcz108_0 : w107.cell? ⟨gb170, 0, none⟩ = some (.slice (some ⟨go56, 0, none⟩) t162.length co93) := (blk_cell BK170.out 0).trans rfl
                      have hcz108_1 : w107.cell? ⟨gb170, 1, none⟩ = some (.slice (some ⟨go57, 0, none⟩) t165.length co97) := (blk_cell BK170.out 1).trans rfl
                      have hcz108_2 : w107.cell? ⟨gb170, 2, none⟩ = some (.int .i64 (wrap64 (t168 + (wrap64 (a2 * (rd t165 a1)))))) := (blk_cell BK170.out 2).trans rfl
                      have hcz108_3 : w107.cell? ⟨gb170, 3, none⟩ = some (.int .i64 t169) := (blk_cell BK170.out 3).trans rfl
                      have hfz108_0 := blk_frozen BK170.out 0
                      have hfz108_1 := blk_frozen BK170.out 1
                      have hfz108_2 := blk_frozen BK170.out 2
                      have hfz108_3 := blk_frozen BK170.out 3
                      try go_wp2_with (first | ((with_reducible refine gate_callee (f := 37) rfl ?_); refine goesL_ (some 101) rfl rfl Try.func37 (by kernel_rfl) rfl #[.agg #[.slice (some ⟨go56, 0, none⟩) y172.length co93, .slice (some ⟨go57, 0, none⟩) y174.length co97, .int .i64 (wrap64 (t168 + (wrap64 (a2 * (rd t165 a1))))), .int .i64 t169]] rfl (by (try simp only [List.map_toArray, List.map_cons, List.map_nil]); first | done | (rw [show y172.length = t162.length from (Kd.R_reads' HO164.out).1.symm, show y174.length = t165.length from (Kd.R_reads' HO167.out).1.symm] <;> rfl) | rfl | (simp only [List.length_drop, List.length_take]; rfl)) ?_; (with_reducible refine (spec_l3Or.calls kj42 (fun k_ => some k_ = (.slice (some ⟨go56, 0, none⟩) t162.length co93 : Value).ownBlock) _ _ y172 (fun k_ => some k_ = (.slice (some ⟨go57, 0, none⟩) t165.length co97 : Value).ownBlock) _ _ y174 (wrap64 (t168 + (wrap64 (a2 * (rd t165 a1))))) t169 t184 t187 t190 t191 _ ?side1 ?side2 A88.out).mono ?_); (case side1 => rw [show y172.length = t162.length from (Kd.R_reads' HO164.out).1.symm]; exact Kd.R_V (Kd.R_tight rfl (Kd.R_types (Kd.R_types (Kd.R_types (HO164.out) BK157.out (by decide)) BK158.out (by decide)) BK170.out (by decide)))); (case side2 => rw [show y174.length = t165.length from (Kd.R_reads' HO167.out).1.symm]; exact Kd.R_V (Kd.R_tight rfl (Kd.R_types (Kd.R_types (Kd.R_types (HO167.out) BK157.out (by decide)) BK158.out (by decide)) BK170.out (by decide)))); rintro e w109 ⟨v185, v188, rfl, ho0, ho1, hb⟩; refine ⟨_, rfl, ?_⟩; have n0_ := Aside0.mk (Kd.R_below (by (with_reducible repeat (first | apply Kd.R_alloc | apply Kd.R_drewN | apply Kd.R_drew)); exact HO164.out) hb); have n1_ := Aside0.mk (Kd.R_below (by (with_reducible repeat (first | apply Kd.R_alloc | apply Kd.R_drewN | apply Kd.R_drew)); exact HO167.out) hb); have n2_ := Aside0.mk (Kd.V_lower (Kd.V_mono (ok' := fun k_ => (w.heap.size ≤ k_) ∧ k_ ≠ gb157 ∧ k_ ≠ gb158 ∧ k_ ≠ gb170) ho0 (fun k_ hk_ => ⟨Or.elim hk_ (fun hs_ => Or.elim hs_ (fun hs_ => ((Kd.R_types (Kd.R_types (Kd.R_types (HO164.out) BK157.out (by decide)) BK158.out (by decide)) BK170.out (by decide)).1 k_ hs_.symm).1.1.1.1) (fun hs_ => ((Kd.R_types (Kd.R_types (Kd.R_types (HO167.out) BK157.out (by decide)) BK158.out (by decide)) BK170.out (by decide)).1 k_ hs_.symm).1.1.1.1)) (fun hn_ => (Nat.le_trans (below_size (by repeat (first | (with_reducible first | exact HB.out | apply below_alloc | apply pw_below_drewN | apply below_drew1 | refine below_set ?_ GE157.out | refine below_set ?_ GE158.out | refine below_set ?_ GE170.out) | exact HB.out))) hn_)), Or.elim hk_ (fun hs_ => Or.elim hs_ (fun hs_ => ((Kd.R_types (Kd.R_types (Kd.R_types (HO164.out) BK157.out (by decide)) BK158.out (by decide)) BK170.out (by decide)).1 k_ hs_.symm).1.1.2) (fun hs_ => ((Kd.R_types (Kd.R_types (Kd.R_types (HO167.out) BK157.out (by decide)) BK158.out (by decide)) BK170.out (by decide)).1 k_ hs_.symm).1.1.2)) (fun hn_ => (Kd.freshB (g := gb157) (o := .cells #[.slice A0_0 l0_0.length c0_0, .slice A0_1 l0_1.length c0_1, .int .i64 a0_2, .int .i64 a0_3] 26 (0, 0)) (by (with_reducible repeat (first | refine blk_drewN ?_ _ | refine blk_drew ?_ | refine blk_alloc ?_ _)); exact BK157.out) k_ hn_)), Or.elim hk_ (fun hs_ => Or.elim hs_ (fun hs_ => ((Kd.R_types (Kd.R_types (Kd.R_types (HO164.out) BK157.out (by decide)) BK158.out (by decide)) BK170.out (by decide)).1 k_ hs_.symm).1.2) (fun hs_ => ((Kd.R_types (Kd.R_types (Kd.R_types (HO167.out) BK157.out (by decide)) BK158.out (by decide)) BK170.out (by decide)).1 k_ hs_.symm).1.2)) (fun hn_ => (Kd.freshB (g := gb158) (o := .cells #[.slice none 0 0, .slice none 0 0, .int .i64 0, .int .i64 0] 26 (0, 0)) (by (with_reducible repeat (first | refine blk_drewN ?_ _ | refine blk_drew ?_ | refine blk_alloc ?_ _)); exact BK158.out) k_ hn_)), Or.elim hk_ (fun hs_ => Or.elim hs_ (fun hs_ => ((Kd.R_types (Kd.R_types (Kd.R_types (HO164.out) BK157.out (by decide)) BK158.out (by decide)) BK170.out (by decide)).1 k_ hs_.symm).2) (fun hs_ => ((Kd.R_types (Kd.R_types (Kd.R_types (HO167.out) BK157.out (by decide)) BK158.out (by decide)) BK170.out (by decide)).1 k_ hs_.symm).2)) (fun hn_ => (Kd.freshB (g := gb170) (o := .cells #[.slice (some ⟨go56, 0, none⟩) t162.length co93, .slice (some ⟨go57, 0, none⟩) t165.length co97, .int .i64 (wrap64 (t168 + (wrap64 (a2 * (rd t165 a1))))), .int .i64 t169] 26 (0, 0)) (by (with_reducible repeat (first | refine blk_drewN ?_ _ | refine blk_drew ?_ | refine blk_alloc ?_ _)); exact BK170.out) k_ hn_))⟩)) (below_size (by repeat (first | (with_reducible first | exact HB.out | apply below_alloc | apply pw_below_drewN | apply below_drew1 | refine below_set ?_ GE157.out | refine below_set ?_ GE158.out | refine below_set ?_ GE170.out) | exact HB.out)))); have n3_ := Aside0.mk (Kd.V_lower (Kd.V_mono (ok' := fun k_ => (w.heap.size ≤ k_) ∧ k_ ≠ gb157 ∧ k_ ≠ gb158 ∧ k_ ≠ gb170) ho1 (fun k_ hk_ => ⟨Or.elim hk_ (fun hs_ => Or.elim hs_ (fun hs_ => ((Kd.R_types (Kd.R_types (Kd.R_types (HO164.out) BK157.out (by decide)) BK158.out (by decide)) BK170.out (by decide)).1 k_ hs_.symm).1.1.1.1) (fun hs_ => ((Kd.R_types (Kd.R_types (Kd.R_types (HO167.out) BK157.out (by decide)) BK158.out (by decide)) BK170.out (by decide)).1 k_ hs_.symm).1.1.1.1)) (fun hn_ => (Nat.le_trans (below_size (by repeat (first | (with_reducible first | exact HB.out | apply below_alloc | apply pw_below_drewN | apply below_drew1 | refine below_set ?_ GE157.out | refine below_set ?_ GE158.out | refine below_set ?_ GE170.out) | exact HB.out))) hn_)), Or.elim hk_ (fun hs_ => Or.elim hs_ (fun hs_ => ((Kd.R_types (Kd.R_types (Kd.R_types (HO164.out) BK157.out (by decide)) BK158.out (by decide)) BK170.out (by decide)).1 k_ hs_.symm).1.1.2) (fun hs_ => ((Kd.R_types (Kd.R_types (Kd.R_types (HO167.out) BK157.out (by decide)) BK158.out (by decide)) BK170.out (by decide)).1 k_ hs_.symm).1.1.2)) (fun hn_ => (Kd.freshB (g := gb157) (o := .cells #[.slice A0_0 l0_0.length c0_0, .slice A0_1 l0_1.length c0_1, .int .i64 a0_2, .int .i64 a0_3] 26 (0, 0)) (by (with_reducible repeat (first | refine blk_drewN ?_ _ | refine blk_drew ?_ | refine blk_alloc ?_ _)); exact BK157.out) k_ hn_)), Or.elim hk_ (fun hs_ => Or.elim hs_ (fun hs_ => ((Kd.R_types (Kd.R_types (Kd.R_types (HO164.out) BK157.out (by decide)) BK158.out (by decide)) BK170.out (by decide)).1 k_ hs_.symm).1.2) (fun hs_ => ((Kd.R_types (Kd.R_types (Kd.R_types (HO167.out) BK157.out (by decide)) BK158.out (by decide)) BK170.out (by decide)).1 k_ hs_.symm).1.2)) (fun hn_ => (Kd.freshB (g := gb158) (o := .cells #[.slice none 0 0, .slice none 0 0, .int .i64 0, .int .i64 0] 26 (0, 0)) (by (with_reducible repeat (first | refine blk_drewN ?_ _ | refine blk_drew ?_ | refine blk_alloc ?_ _)); exact BK158.out) k_ hn_)), Or.elim hk_ (fun hs_ => Or.elim hs_ (fun hs_ => ((Kd.R_types (Kd.R_types (Kd.R_types (HO164.out) BK157.out (by decide)) BK158.out (by decide)) BK170.out (by decide)).1 k_ hs_.symm).2) (fun hs_ => ((Kd.R_types (Kd.R_types (Kd.R_types (HO167.out) BK157.out (by decide)) BK158.out (by decide)) BK170.out (by decide)).1 k_ hs_.symm).2)) (fun hn_ => (Kd.freshB (g := gb170) (o := .cells #[.slice (some ⟨go56, 0, none⟩) t162.length co93, .slice (some ⟨go57, 0, none⟩) t165.length co97, .int .i64 (wrap64 (t168 + (wrap64 (a2 * (rd t165 a1))))), .int .i64 t169] 26 (0, 0)) (by (with_reducible repeat (first | refine blk_drewN ?_ _ | refine blk_drew ?_ | refine blk_alloc ?_ _)); exact BK170.out) k_ hn_))⟩)) (below_size (by repeat (first | (with_reducible first | exact HB.out | apply below_alloc | apply pw_below_drewN | apply below_drew1 | refine below_set ?_ GE157.out | refine below_set ?_ GE158.out | refine below_set ?_ GE170.out) | exact HB.out)))); have n4_ := Aside0.mk (blk_below (g := gb157) (o := .cells #[.slice A0_0 l0_0.length c0_0, .slice A0_1 l0_1.length c0_1, .int .i64 a0_2, .int .i64 a0_3] 26 (0, 0)) (by (with_reducible repeat (first | refine blk_drewN ?_ _ | refine blk_drew ?_ | refine blk_alloc ?_ _)); exact BK157.out) hb); have n5_ := Aside0.mk (blk_below (g := gb158) (o := .cells #[.slice none 0 0, .slice none 0 0, .int .i64 0, .int .i64 0] 26 (0, 0)) (by (with_reducible repeat (first | refine blk_drewN ?_ _ | refine blk_drew ?_ | refine blk_alloc ?_ _)); exact BK158.out) hb); have n6_ := Aside0.mk (blk_below (g := gb170) (o := .cells #[.slice (some ⟨go56, 0, none⟩) t162.length co93, .slice (some ⟨go57, 0, none⟩) t165.length co97, .int .i64 (wrap64 (t168 + (wrap64 (a2 * (rd t165 a1))))), .int .i64 t169] 26 (0, 0)) (by (with_reducible repeat (first | refine blk_drewN ?_ _ | refine blk_drew ?_ | refine blk_alloc ?_ _)); exact BK170.out) hb); have n7_ := Aside0.mk (below_step (by repeat (first | (with_reducible first | exact HB.out | apply below_alloc | apply pw_below_drewN | apply below_drew1 | refine below_set ?_ GE157.out | refine below_set ?_ GE158.out | refine below_set ?_ GE170.out) | exact HB.out)) hb); clear HO164; clear HO167; clear BK157; clear BK158; clear BK170; clear HB; have HO164 := n0_; have HO167 := n1_; have HO186 := n2_; have HO189 := n3_; have BK157 := n4_; have BK158 := n5_; have BK170 := n6_; have HB := n7_; clear n0_ n1_ n2_ n3_ n4_ n5_ n6_ n7_; (try clear hb); (try clear hb2); (try clear hk); (try clear hi); (try clear ho0); (try clear ho1); obtain ⟨Ao110, co110, eo110⟩ := Kd.V_slice HO186.out; subst eo110; have hcz111_0 : w109.cell? ⟨gb158, 0, none⟩ = some (.slice none 0 0) := (blk_cell BK158.out 0).trans rfl; have hcz111_1 : w109.cell? ⟨gb158, 1, none⟩ = some (.slice none 0 0) := (blk_cell BK158.out 1).trans rfl; have hcz111_2 : w109.cell? ⟨gb158, 2, none⟩ = some (.int .i64 0) := (blk_cell BK158.out 2).trans rfl; have hcz111_3 : w109.cell? ⟨gb158, 3, none⟩ = some (.int .i64 0) := (blk_cell BK158.out 3).trans rfl; have hfz111_0 := blk_frozen BK158.out 0; have hfz111_1 := blk_frozen BK158.out 1; have hfz111_2 := blk_frozen BK158.out 2; have hfz111_3 := blk_frozen BK158.out 3; obtain ⟨Ao112, co112, eo112⟩ := Kd.V_slice HO189.out; subst eo112))
                      refine bodyPost_ret (results_cell_row rfl _ _ gb158 26 #[.slice Ao110 t184.length co110, .slice Ao112 t187.length co112, .int .i64 t190, .int .i64 t191] (0, 0) _ rfl (by (with_reducible repeat (first | refine blk_drewN ?_ _ | refine blk_drew ?_ | refine blk_alloc ?_ _)); refine blk_put (cs := #[.slice Ao110 t184.length co110, .slice Ao112 t187.length co112, .int .i64 t190, .int .i64 0]) ?_ 3 _ rfl; (with_reducible repeat (first | refine blk_drewN ?_ _ | refine blk_drew ?_ | refine blk_alloc ?_ _)); refine blk_put (cs := #[.slice Ao110 t184.length co110, .slice Ao112 t187.length co112, .int .i64 0, .int .i64 0]) ?_ 2 _ rfl; (with_reducible repeat (first | refine blk_drewN ?_ _ | refine blk_drew ?_ | refine blk_alloc ?_ _)); refine blk_put (cs := #[.slice Ao110 t184.length co110, .slice none 0 0, .int .i64 0, .int .i64 0]) ?_ 1 _ rfl; (with_reducible repeat (first | refine blk_drewN ?_ _ | refine blk_drew ?_ | refine blk_alloc ?_ _)); refine blk_put (cs := #[.slice none 0 0, .slice none 0 0, .int .i64 0, .int .i64 0]) ?_ 0 _ rfl; (with_reducible repeat (first | refine blk_drewN ?_ _ | refine blk_drew ?_ | refine blk_alloc ?_ _)); exact BK158.out) Try.underlying26 rfl (by kernel_rfl)) rfl ?_
                      exact ⟨_, _, by first | rfl | (simp [errW_none, errW_some] <;> rfl) | (simp [*, errW_none, errW_some] <;> rfl), by (with_reducible repeat (first | apply Kd.V_alloc | apply Kd.V_drewN | apply Kd.V_drew)); exact Kd.V_mono (Kd.V_far (p := ⟨gb158, 3, none⟩) (Kd.V_far (p := ⟨gb158, 2, none⟩) (Kd.V_far (p := ⟨gb158, 1, none⟩) (Kd.V_far (p := ⟨gb158, 0, none⟩) (Kd.V_mono HO186.out (fun k_ hk => (⟨hk, hk.2.2.1⟩ : _ ∧ k_ ≠ gb158))) (fun _ hk => hk.2) (.slice Ao110 t184.length co110)) (fun _ hk => hk.2) (.slice Ao112 t187.length co112)) (fun _ hk => hk.2) (.int .i64 t190)) (fun _ hk => hk.2) (.int .i64 t191)) (fun _ hk => hk.1.1), by (with_reducible repeat (first | apply Kd.V_alloc | apply Kd.V_drewN | apply Kd.V_drew)); exact Kd.V_mono (Kd.V_far (p := ⟨gb158, 3, none⟩) (Kd.V_far (p := ⟨gb158, 2, none⟩) (Kd.V_far (p := ⟨gb158, 1, none⟩) (Kd.V_far (p := ⟨gb158, 0, none⟩) (Kd.V_mono HO189.out (fun k_ hk => (⟨hk, hk.2.2.1⟩ : _ ∧ k_ ≠ gb158))) (fun _ hk => hk.2) (.slice Ao110 t184.length co110)) (fun _ hk => hk.2) (.slice Ao112 t187.length co112)) (fun _ hk => hk.2) (.int .i64 t190)) (fun _ hk => hk.2) (.int .i64 t191)) (fun _ hk => hk.1.1), by repeat (first | (with_reducible first | exact HB.out | apply below_alloc | apply pw_below_drewN | apply below_drew1 | refine below_set ?_ GE157.out | refine below_set ?_ GE158.out | refine below_set ?_ GE170.out) | exact HB.out)⟩
                  · rw [if_neg c55] at H
                    exact absurd H (by simp)
                · rw [if_neg c54] at H
                  exact absurd H (by simp)
              · rw [if_neg c53] at H
                exact absurd H (by simp)

end Go.Proofs.Ytcpemdedmepfeaa.PFnExactSlice
