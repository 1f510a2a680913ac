-- Printed out of the translation, hand-written contracts beside it; checked by the kernel alone.
import Derived.Test.YtcpemdedmepfeabPFnExactFoldx0
import Derived.Test.YtcpemdedmepfeabPFnExactFoldx2
import Derived.Test.YtcpemdedmepfeabPFnExactFoldx3
namespace Go.Proofs.Ytcpemdedmepfeab.PFnExactFold
open Go.RowKit Go.Proofs.YtcpemdedmepfeabW.PrintWords Go.Proofs.YtcpemdedmepfeabW.PrintLast Go.Proofs.YtcpemdedmepfeabW.PrintMore
attribute [local go_sem] max2_int min2_int max_two min_two max_three min_three max_four min_four   -- for this text's walks alone
set_option linter.unusedVariables false
set_option linter.unusedSimpArgs false
abbrev T4_ : Bool := true
abbrev F4_ : Bool := false

/-! ### spec_Fold: function 27 -/
mutual
def spec_Fold.j0 : Nat → Int → Int → Int → Int → Bool → List Int → List Int → Option (List Int × List Int)
 | 0, _, _, _, _, _, _, _ => none
 | k + 1, x1, x2, x3, x9, x40, x181000, x181001 => if x40 = true then (some (([] : List Int), ([] : List Int))) else (if 0 ≤ x9 then (if x9 < (x181000.length : Int) then (if (rd x181000 x9) > x3 then (spec_Fold.j1 k x1 x2 x3 x9 true x181000 x181001) else (if x2 = 0 then (none) else (if 0 ≤ x1 then (if x1 < (x181000.length : Int) then (spec_Fold.j1 k x1 x2 x3 x9 ((wrap64 ((wrap64 (Int.tdiv (wrap64 (x3 - (rd x181000 x9))) x2)) + 1)) != (rd x181000 x1)) x181000 x181001) else (none)) else (none)))) else (none)) else (none))
def spec_Fold.j1 : Nat → Int → Int → Int → Int → Bool → List Int → List Int → Option (List Int × List Int)
 | 0, _, _, _, _, _, _, _ => none
 | k + 1, x1, x2, x3, x9, x63, x181000, x181001 => if x63 = true then (some (([] : List Int), ([] : List Int))) else ((spec_l4With.f x181000 x1 x3).bind fun t185 => (if 0 ≤ x9 then (if x9 ≤ (t185.length : Int) then ((some (t185.take (x9 : Int).toNat : List Int)).bind fun y188 => ((spec_DimsOk.f k y188).bind fun t191 => (if t191 = true then ((spec_l4New.f k y188).bind fun bt192 => (spec_Fold.l0 k x1 x2 x9 0 x181000 x181001 bt192.1 bt192.2)) else (some (([] : List Int), ([] : List Int)))))) else (none)) else (none)))
def spec_Fold.l0 : Nat → Int → Int → Int → Int → List Int → List Int → List Int → List Int → Option (List Int × List Int)
 | 0, _, _, _, _, _, _, _, _ => none
 | k + 1, x1, x2, x9, x13, x181000, x181001, x199000, x199001 => if x13 < (x181001.length : Int) then ((spec_l3Index.f k x181000 x13).bind fun t199 => (if 0 ≤ x1 then (if x1 < (t199.length : Int) then (if 0 ≤ x9 then (if x9 < (t199.length : Int) then ((spec_l4With.f t199 x1 (wrap64 ((wrap64 ((rd t199 x1) * x2)) + (rd t199 x9)))).bind fun t204 => (if x9 ≤ (t204.length : Int) then ((some (t204.take (x9 : Int).toNat : List Int)).bind fun y207 => ((spec_l4Get.f k x199000 x199001 y207).bind fun t210 => (if 0 ≤ x13 then ((spec_Plus.f t210 (rd x181001 x13)).bind fun t212 => ((spec_l4Set.f k x199000 x199001 y207 t212).bind fun t213 => (spec_Fold.l0 k x1 x2 x9 (wrap64 (x13 + 1)) x181000 x181001 x199000 t213))) else (none)))) else (none))) else (none)) else (none)) else (none)) else (none))) else (some (x199000, x199001))
end
def spec_Fold.f (k : Nat) (l0_0 : List Int) (l0_1 : List Int) (a1 : Int) (a2 : Int) (a3 : Int) : Option (List Int × List Int) := (spec_l4Axis.f k l0_0 l0_1 a1).bind fun t182 => (if t182 = true then (if a1 = (wrap64 ((l0_0.length : Int) - 1)) then (spec_Fold.j0 k a1 a2 a3 (wrap64 ((l0_0.length : Int) - 1)) true l0_0 l0_1) else (if a2 < 1 then (spec_Fold.j0 k a1 a2 a3 (wrap64 ((l0_0.length : Int) - 1)) true l0_0 l0_1) else (if a3 < 1 then (spec_Fold.j0 k a1 a2 a3 (wrap64 ((l0_0.length : Int) - 1)) true l0_0 l0_1) else (spec_Fold.j0 k a1 a2 a3 (wrap64 ((l0_0.length : Int) - 1)) (decide (a3 > 4096)) l0_0 l0_1)))) else (spec_Fold.j0 k a1 a2 a3 (wrap64 ((l0_0.length : Int) - 1)) true l0_0 l0_1))
theorem spec_Fold.mono_l : ∀ k, (∀ y0 y1 y2 y3 y4 y5 y6, LeO (spec_Fold.j0 k y0 y1 y2 y3 y4 y5 y6) (spec_Fold.j0 (k + 1) y0 y1 y2 y3 y4 y5 y6)) ∧ (∀ y0 y1 y2 y3 y4 y5 y6, LeO (spec_Fold.j1 k y0 y1 y2 y3 y4 y5 y6) (spec_Fold.j1 (k + 1) y0 y1 y2 y3 y4 y5 y6)) ∧ (∀ y0 y1 y2 y3 y4 y5 y6 y7, LeO (spec_Fold.l0 k y0 y1 y2 y3 y4 y5 y6 y7) (spec_Fold.l0 (k + 1) y0 y1 y2 y3 y4 y5 y6 y7))
 | 0 => ⟨fun _ _ _ _ _ _ _ r h => by simp [spec_Fold.j0] at h, fun _ _ _ _ _ _ _ r h => by simp [spec_Fold.j1] at h, fun _ _ _ _ _ _ _ _ r h => by simp [spec_Fold.l0] at h⟩
 | k + 1 => by
  obtain ⟨ih0, ih1, ih2⟩ := spec_Fold.mono_l k
  refine ⟨?_, ?_, ?_⟩
  ·intro y0 y1 y2 y3 y4 y5 y6
   unfold spec_Fold.j0
   repeat' first
   | (with_reducible exact ih0 _ _ _ _ _ _ _)
   | (with_reducible exact ih1 _ _ _ _ _ _ _)
   | (with_reducible exact ih2 _ _ _ _ _ _ _ _)
   | (with_reducible exact spec_DimsOk.mono _ _)
   | (with_reducible exact spec_l3Index.mono _ _ _)
   | (with_reducible exact spec_l4Axis.mono _ _ _ _)
   | (with_reducible exact spec_l4Get.mono _ _ _ _)
   | (with_reducible exact spec_l4New.mono _ _)
   | (with_reducible exact spec_l4Set.mono _ _ _ _ _)
   | (with_reducible exact LeO.refl _)
   | (with_reducible exact LeO.none _)
   | (with_reducible refine LeO.ite ?_ ?_)
   | (with_reducible refine LeO.bind ?_ (fun _ => ?_))
   | exact ih0 _ _ _ _ _ _ _
   | exact ih1 _ _ _ _ _ _ _
   | exact ih2 _ _ _ _ _ _ _ _
   | exact spec_DimsOk.mono _ _
   | exact spec_l3Index.mono _ _ _
   | exact spec_l4Axis.mono _ _ _ _
   | exact spec_l4Get.mono _ _ _ _
   | exact spec_l4New.mono _ _
   | exact spec_l4Set.mono _ _ _ _ _
   | exact LeO.none _
   | refine LeO.ite ?_ ?_
   | refine LeO.bind ?_ (fun _ => ?_)
  ·intro y0 y1 y2 y3 y4 y5 y6
   unfold spec_Fold.j1
   repeat' first
   | (with_reducible exact ih0 _ _ _ _ _ _ _)
   | (with_reducible exact ih1 _ _ _ _ _ _ _)
   | (with_reducible exact ih2 _ _ _ _ _ _ _ _)
   | (with_reducible exact spec_DimsOk.mono _ _)
   | (with_reducible exact spec_l3Index.mono _ _ _)
   | (with_reducible exact spec_l4Axis.mono _ _ _ _)
   | (with_reducible exact spec_l4Get.mono _ _ _ _)
   | (with_reducible exact spec_l4New.mono _ _)
   | (with_reducible exact spec_l4Set.mono _ _ _ _ _)
   | (with_reducible exact LeO.refl _)
   | (with_reducible exact LeO.none _)
   | (with_reducible refine LeO.ite ?_ ?_)
   | (with_reducible refine LeO.bind ?_ (fun _ => ?_))
   | exact ih0 _ _ _ _ _ _ _
   | exact ih1 _ _ _ _ _ _ _
   | exact ih2 _ _ _ _ _ _ _ _
   | exact spec_DimsOk.mono _ _
   | exact spec_l3Index.mono _ _ _
   | exact spec_l4Axis.mono _ _ _ _
   | exact spec_l4Get.mono _ _ _ _
   | exact spec_l4New.mono _ _
   | exact spec_l4Set.mono _ _ _ _ _
   | exact LeO.none _
   | refine LeO.ite ?_ ?_
   | refine LeO.bind ?_ (fun _ => ?_)
  ·intro y0 y1 y2 y3 y4 y5 y6 y7
   unfold spec_Fold.l0
   repeat' first
   | (with_reducible exact ih0 _ _ _ _ _ _ _)
   | (with_reducible exact ih1 _ _ _ _ _ _ _)
   | (with_reducible exact ih2 _ _ _ _ _ _ _ _)
   | (with_reducible exact spec_DimsOk.mono _ _)
   | (with_reducible exact spec_l3Index.mono _ _ _)
   | (with_reducible exact spec_l4Axis.mono _ _ _ _)
   | (with_reducible exact spec_l4Get.mono _ _ _ _)
   | (with_reducible exact spec_l4New.mono _ _)
   | (with_reducible exact spec_l4Set.mono _ _ _ _ _)
   | (with_reducible exact LeO.refl _)
   | (with_reducible exact LeO.none _)
   | (with_reducible refine LeO.ite ?_ ?_)
   | (with_reducible refine LeO.bind ?_ (fun _ => ?_))
   | exact ih0 _ _ _ _ _ _ _
   | exact ih1 _ _ _ _ _ _ _
   | exact ih2 _ _ _ _ _ _ _ _
   | exact spec_DimsOk.mono _ _
   | exact spec_l3Index.mono _ _ _
   | exact spec_l4Axis.mono _ _ _ _
   | exact spec_l4Get.mono _ _ _ _
   | exact spec_l4New.mono _ _
   | exact spec_l4Set.mono _ _ _ _ _
   | exact LeO.none _
   | refine LeO.ite ?_ ?_
   | refine LeO.bind ?_ (fun _ => ?_)
theorem spec_Fold.mono : ∀ a0 a1 a2 a3 a4 k, LeO (spec_Fold.f k a0 a1 a2 a3 a4) (spec_Fold.f (k + 1) a0 a1 a2 a3 a4) := by
 intro a0 a1 a2 a3 a4 k
 obtain ⟨ih0, ih1, ih2⟩ := spec_Fold.mono_l k
 unfold spec_Fold.f
 repeat' first
   | (with_reducible exact ih0 _ _ _ _ _ _ _)
   | (with_reducible exact ih1 _ _ _ _ _ _ _)
   | (with_reducible exact ih2 _ _ _ _ _ _ _ _)
   | (with_reducible exact spec_DimsOk.mono _ _)
   | (with_reducible exact spec_l3Index.mono _ _ _)
   | (with_reducible exact spec_l4Axis.mono _ _ _ _)
   | (with_reducible exact spec_l4Get.mono _ _ _ _)
   | (with_reducible exact spec_l4New.mono _ _)
   | (with_reducible exact spec_l4Set.mono _ _ _ _ _)
   | (with_reducible exact LeO.refl _)
   | (with_reducible exact LeO.none _)
   | (with_reducible refine LeO.ite ?_ ?_)
   | (with_reducible refine LeO.bind ?_ (fun _ => ?_))
   | exact ih0 _ _ _ _ _ _ _
   | exact ih1 _ _ _ _ _ _ _
   | exact ih2 _ _ _ _ _ _ _ _
   | exact spec_DimsOk.mono _ _
   | exact spec_l3Index.mono _ _ _
   | exact spec_l4Axis.mono _ _ _ _
   | exact spec_l4Get.mono _ _ _ _
   | exact spec_l4New.mono _ _
   | exact spec_l4Set.mono _ _ _ _ _
   | exact LeO.none _
   | refine LeO.ite ?_ ?_
   | refine LeO.bind ?_ (fun _ => ?_)
def spec_Fold.T5 : Bool × List (List Nat × List Nat) := (true, [([], []), ([], []), ([0, 1], [0, 1]), ([2], [2]), ([3], [3]), ([3], [3]), ([4, 5, 3], [3, 4, 5]), ([3], [3]), ([6, 7, 3], [3, 6, 7]), ([8, 3], [3, 8]), ([3], [3]), ([10, 3], [3, 10]), ([3], [3]), ([11, 12, 3], [3, 11, 12]), ([13, 3], [3, 13]), ([9, 14, 3], [3, 9, 14]), ([3, 15], [3, 15])])
def spec_Fold.B5 : List Nat := [0, 0, 3, 7, 15, 15, 63, 15, 255, 511, 15, 1039, 15, 7183, 15375, 32767, 65535]
theorem spec_Fold.tab5 : rtab .any (opsOf Try.f27 5) = spec_Fold.T5 := by kernel_rfl
theorem spec_Fold.bits5 : waitsOk spec_Fold.T5.2 spec_Fold.B5 = true := by kernel_rfl
def spec_Fold.T15 : Bool × List (List Nat × List Nat) := (true, [([], []), ([], []), ([], []), ([], []), ([2, 3], [2, 3]), ([4], [4]), ([], []), ([5, 6], [5, 6]), ([], []), ([], []), ([8, 9], [8, 9]), ([10], [10]), ([7, 11], [7, 11]), ([0, 1, 12], [0, 1, 12]), ([], []), ([13, 14], [13, 14]), ([15, 13, 0, 1, 2, 3, 4, 5, 6, 7, 8, 9, 10, 11, 12, 13, 14, 15], [15])])
def spec_Fold.B15 : List Nat := [0, 0, 0, 0, 12, 28, 0, 124, 0, 0, 768, 1792, 4092, 8191, 0, 32767, 65535]
theorem spec_Fold.tab15 : rtab .any (opsOf Try.f27 15) = spec_Fold.T15 := by kernel_rfl
theorem spec_Fold.bits15 : waitsOk spec_Fold.T15.2 spec_Fold.B15 = true := by kernel_rfl
def spec_Fold.T16 : Bool × List (List Nat × List Nat) := (true, [([], []), ([], []), ([], []), ([], []), ([2, 3], [2, 3]), ([], []), ([5], [5]), ([], []), ([6, 7], [6, 7]), ([8], [8]), ([4, 9, 4], [4, 9]), ([0, 1, 10, 10], [0, 1, 10])])
def spec_Fold.B16 : List Nat := [0, 0, 0, 0, 12, 0, 32, 0, 224, 480, 1020, 2047]
theorem spec_Fold.tab16 : rtab .any (opsOf Try.f27 16) = spec_Fold.T16 := by kernel_rfl
theorem spec_Fold.bits16 : waitsOk spec_Fold.T16.2 spec_Fold.B16 = true := by kernel_rfl
theorem obl (A : Option Addr) (n m c c' : Nat) : (Value.slice A n c).ownBlock = (Value.slice A m c').ownBlock := by cases A <;> rfl
set_option maxHeartbeats 8000000 in
set_option maxRecDepth 100000 in
theorem spec_Fold.calls (k : Nat) (A0_0 : Option Addr) (c0_0 : Nat) (l0_0 : List Int) (A0_1 : Option Addr) (c0_1 : Nat) (l0_1 : List Int) (a1 : Int) (a2 : Int) (a3 : Int) (r1 : List Int) (r2 : List Int) (w : World) (hr0_0 : Kd.C (Kd.int .i64) w A0_0 l0_0.length l0_0) (hc0_0 : l0_0.length ≤ c0_0) (hr0_1 : Kd.C (Kd.int .i64) w A0_1 l0_1.length l0_1) (hc0_1 : l0_1.length ≤ c0_1) (h : spec_Fold.f k l0_0 l0_1 a1 a2 a3 = some (r1, r2)) :
  Calls Try.prog 27 #[.agg #[.slice A0_0 l0_0.length c0_0, .slice A0_1 l0_1.length c0_1], .int .i64 a1, .int .i64 a2, .int .i64 a3] w fun e w' => ∃ v0_ v1_ : Value, e = .returned (.agg #[v0_, v1_]) ∧ Kd.R (Kd.int .i64) 3 w' w.heap.size (fun k_ => some k_ ≠ (v1_ : Value).ownBlock) v0_ r1 ∧ Kd.R (Kd.int .i64) 3 w' w.heap.size (fun k_ => some k_ ≠ (v0_ : Value).ownBlock) v1_ r2 ∧ Below w.heap.size w w' := by
 have hu26 := Try.underlying26
 have HR0_0 := Aside0.mk hr0_0
 have HC0_0 := Aside0.mk hc0_0
 clear hr0_0 hc0_0
 have HR0_1 := Aside0.mk hr0_1
 have HC0_1 := Aside0.mk hc0_1
 clear hr0_1 hc0_1
 have HB := Aside0.mk (Below.refl w.heap.size w)
 have H : ((spec_l4Axis.f k l0_0 l0_1 a1).bind fun t182 => (if t182 = true then (if a1 = (wrap64 ((l0_0.length : Int) - 1)) then (spec_Fold.j0 k a1 a2 a3 (wrap64 ((l0_0.length : Int) - 1)) true l0_0 l0_1) else (if a2 < 1 then (spec_Fold.j0 k a1 a2 a3 (wrap64 ((l0_0.length : Int) - 1)) true l0_0 l0_1) else (if a3 < 1 then (spec_Fold.j0 k a1 a2 a3 (wrap64 ((l0_0.length : Int) - 1)) true l0_0 l0_1) else (spec_Fold.j0 k a1 a2 a3 (wrap64 ((l0_0.length : Int) - 1)) (decide (a3 > 4096)) l0_0 l0_1)))) else (spec_Fold.j0 k a1 a2 a3 (wrap64 ((l0_0.length : Int) - 1)) true l0_0 l0_1))) = some (r1, r2) := h
 clear h
 have HC5 := Aside0.mk H
 clear H
 go_enter Try.func27, Try.ntmps27
 go_upto_region 2 with (first | ((with_reducible refine gate_dst (N := 4) rfl ?_); refine box_event ?hg (N := 4) ?hd (cs := #[.slice A0_0 l0_0.length c0_0, .slice A0_1 l0_1.length c0_1]) (t := 26) ?hr ?_; (case hd => rfl); (case hg => rfl); (case hr => first | (go_simp; done) | (go_simp; rfl)); intro gb180 hg w6 hbox hb; have BK180 := Aside0.mk (hbox); have GW180 := Aside0.mk ((by rw [hg]; exact (below_size (Hu HB.out)) : w.heap.size ≤ gb180)); have GE180 := Aside0.mk ((by rw [hg]; exact (below_size (Hu HB.out)) : w.heap.size ≤ gb180)); replace HB := Aside0.mk (below_step (Hu HB.out) hb); clear hb hbox hg) | ((with_reducible refine gate_dst (N := 8) rfl ?_); refine box_event ?hg (N := 8) ?hd (cs := #[.slice none 0 0, .slice none 0 0]) (t := 26) ?hr ?_; (case hd => rfl); (case hg => rfl); (case hr => first | (go_simp; done) | (go_simp; rfl)); intro gb181 hg w7 hbox hb; have BK181 := Aside0.mk (hbox); have GW181 := Aside0.mk ((by rw [hg]; exact (below_size (HBu HB.out)) : w.heap.size ≤ gb181)); have GE181 := Aside0.mk ((by rw [hg]; exact (below_size (HBu HB.out)) : w.heap.size ≤ gb181)); have NB180_181 := Aside0.mk ((by rw [hg]; exact Nat.ne_of_lt (blk_lt (g := gb180) (o := .cells #[.slice A0_0 l0_0.length c0_0, .slice A0_1 l0_1.length c0_1] 26 (0, 0)) (Bu BK180.out)) : gb180 ≠ gb181)); have NB181_180 := Aside0.mk ((by rw [hg]; exact Nat.ne_of_gt (blk_lt (g := gb180) (o := .cells #[.slice A0_0 l0_0.length c0_0, .slice A0_1 l0_1.length c0_1] 26 (0, 0)) (Bu BK180.out)) : gb181 ≠ gb180)); replace BK180 := Aside0.mk (Bb BK180.out hb); replace HB := Aside0.mk (below_step (HBu HB.out) hb); clear hb hbox hg; have hnb8 := NB180_181.out; have hnc8 := NB181_180.out; have hcz9_0 : w7.cell? ⟨gb180, 0, none⟩ = some (.slice A0_0 l0_0.length c0_0) := (blk_cell BK180.out 0).trans rfl; have hcz9_1 : w7.cell? ⟨gb180, 1, none⟩ = some (.slice A0_1 l0_1.length c0_1) := (blk_cell BK180.out 1).trans rfl; have hfz9_0 := blk_frozen BK180.out 0; have hfz9_1 := blk_frozen BK180.out 1))
 (try simp only [Act.put, List.setIfInBounds_toArray, List.set_cons_zero, List.set_cons_succ])
 go_cut [40] (fun v40 wc => ∃ (kq : Nat) (x40_4 : Bool), v40 = .bool x40_4 ∧ Aside0 (spec_Fold.j0 kq a1 a2 a3 (wrap64 ((l0_0.length : Int) - 1)) x40_4 l0_0 l0_1 = some (r1, r2)) ∧ Aside0 (kq ≤ k) ∧ Aside0 (wc.heap[gb180]? = some (.cells #[(.slice A0_0 l0_0.length c0_0), (.slice A0_1 l0_1.length c0_1)] 26 (0, 0))) ∧ Aside0 (wc.heap[gb181]? = some (.cells #[(.slice none 0 0), (.slice none 0 0)] 26 (0, 0))) ∧ Aside0 (Below w.heap.size w wc))
 case first =>
  have H := HC5.out
  clear HC5
  replace H := Option.bind_eq_some_iff.mp H
  obtain ⟨t182, A100, H⟩ := H
  replace H : (if t182 = true then (if a1 = (wrap64 ((l0_0.length : Int) - 1)) then (spec_Fold.j0 k a1 a2 a3 (wrap64 ((l0_0.length : Int) - 1)) true l0_0 l0_1) else (if a2 < 1 then (spec_Fold.j0 k a1 a2 a3 (wrap64 ((l0_0.length : Int) - 1)) true l0_0 l0_1) else (if a3 < 1 then (spec_Fold.j0 k a1 a2 a3 (wrap64 ((l0_0.length : Int) - 1)) true l0_0 l0_1) else (spec_Fold.j0 k a1 a2 a3 (wrap64 ((l0_0.length : Int) - 1)) (decide (a3 > 4096)) l0_0 l0_1)))) else (spec_Fold.j0 k a1 a2 a3 (wrap64 ((l0_0.length : Int) - 1)) true l0_0 l0_1)) = some (r1, r2) := H
  have A10 := Aside0.mk A100
  clear A100
  by_cases c11 : t182 = true
  ·subst c11
   have H1 : (if a1 = (wrap64 ((l0_0.length : Int) - 1)) then (spec_Fold.j0 k a1 a2 a3 (wrap64 ((l0_0.length : Int) - 1)) true l0_0 l0_1) else (if a2 < 1 then (spec_Fold.j0 k a1 a2 a3 (wrap64 ((l0_0.length : Int) - 1)) true l0_0 l0_1) else (if a3 < 1 then (spec_Fold.j0 k a1 a2 a3 (wrap64 ((l0_0.length : Int) - 1)) true l0_0 l0_1) else (spec_Fold.j0 k a1 a2 a3 (wrap64 ((l0_0.length : Int) - 1)) (decide (a3 > 4096)) l0_0 l0_1)))) = some (r1, r2) := by rw [if_pos rfl] at H; exact H
   clear H
   have H := H1
   clear H1
   by_cases c12 : a1 = (wrap64 ((l0_0.length : Int) - 1))
   ·rw [if_pos c12] at H
    have c12b0 : (a1 == (wrap64 ((l0_0.length : Int) - 1))) = true := beq_iff_eq.mpr c12
    have c12b1 : (a1 != (wrap64 ((l0_0.length : Int) - 1))) = false := bne_eq_false_iff_eq.mpr c12
    clear c12
    (first | rw [c12b0] | (simp only [i64_w, i32_w]; rw [c12b0]) | skip)
    have H' := Aside0.mk H
    clear H
    have hnb13 := NB180_181.out
    have hnc13 := NB181_180.out
    have hcz14_0 : w7.cell? ⟨gb180, 0, none⟩ = some (.slice A0_0 l0_0.length c0_0) := (blk_cell BK180.out 0).trans rfl
    have hcz14_1 : w7.cell? ⟨gb180, 1, none⟩ = some (.slice A0_1 l0_1.length c0_1) := (blk_cell BK180.out 1).trans rfl
    have hfz14_0 := blk_frozen BK180.out 0
    have hfz14_1 := blk_frozen BK180.out 1
    go_wp2_with (first | ((with_reducible refine gate_callee (f := 34) rfl ?_); refine goesL_ (some 22) rfl rfl Try.func34 (by kernel_rfl) rfl #[.agg #[.slice A0_0 l0_0.length c0_0, .slice A0_1 l0_1.length c0_1], .int .i64 a1] rfl (by (try simp only [List.map_toArray, List.map_cons, List.map_nil]); first | done | rfl | (simp only [List.length_drop, List.length_take]; rfl)) ?_; (with_reducible refine (spec_l4Axis.calls k _ _ l0_0 _ _ l0_1 a1 true _ ?side1 ?side2 ?side3 ?side4 A10.out).mono ?_); (case side1 => exact (Cu ((Kd.C_below HR0_0.out HB.out)))); (case side2 => exact HC0_0.out); (case side3 => exact (Cu ((Kd.C_below HR0_1.out HB.out)))); (case side4 => exact HC0_1.out); rintro e w15 ⟨rfl, hb⟩; refine ⟨_, rfl, ?_⟩; replace BK180 := Aside0.mk (Bb BK180.out hb); replace BK181 := Aside0.mk (Bb BK181.out hb); replace HB := Aside0.mk (below_step (HBu HB.out) hb); (try clear hb); (try clear hb2); (try clear hk); (try clear hi)))
    go_meet
    case rel => exact ⟨_, (true), (by first | rfl | (simp; done) | (simp [*]; done)), H', ⟨by first | omega | exact Nat.le_refl _⟩, ⟨by (with_reducible repeat (first | refine blk_drewN ?_ _ | refine blk_drew ?_ | refine blk_alloc ?_ _)); exact BK180.out⟩, ⟨by (with_reducible repeat (first | refine blk_drewN ?_ _ | refine blk_drew ?_ | refine blk_alloc ?_ _)); exact BK181.out⟩, ⟨HBu HB.out⟩⟩
   ·rw [if_neg c12] at H
    have c12b0 : (a1 == (wrap64 ((l0_0.length : Int) - 1))) = false := beq_eq_false_iff_ne.mpr c12
    have c12b1 : (a1 != (wrap64 ((l0_0.length : Int) - 1))) = true := bne_iff_ne.mpr c12
    (first | rw [c12b0] | (simp only [i64_w, i32_w]; rw [c12b0]) | skip)
    by_cases c16 : a2 < 1
    ·rw [if_pos c16] at H
     have c16b0 : decide (a2 < 1) = true := decide_eq_true c16
     clear c16
     have H' := Aside0.mk H
     clear H
     have hnb17 := NB180_181.out
     have hnc17 := NB181_180.out
     have hcz18_0 : w7.cell? ⟨gb180, 0, none⟩ = some (.slice A0_0 l0_0.length c0_0) := (blk_cell BK180.out 0).trans rfl
     have hcz18_1 : w7.cell? ⟨gb180, 1, none⟩ = some (.slice A0_1 l0_1.length c0_1) := (blk_cell BK180.out 1).trans rfl
     have hfz18_0 := blk_frozen BK180.out 0
     have hfz18_1 := blk_frozen BK180.out 1
     go_wp2_with (first | ((with_reducible refine gate_callee (f := 34) rfl ?_); refine goesL_ (some 22) rfl rfl Try.func34 (by kernel_rfl) rfl #[.agg #[.slice A0_0 l0_0.length c0_0, .slice A0_1 l0_1.length c0_1], .int .i64 a1] rfl (by (try simp only [List.map_toArray, List.map_cons, List.map_nil]); first | done | rfl | (simp only [List.length_drop, List.length_take]; rfl)) ?_; (with_reducible refine (spec_l4Axis.calls k _ _ l0_0 _ _ l0_1 a1 true _ ?side1 ?side2 ?side3 ?side4 A10.out).mono ?_); (case side1 => exact (Cu ((Kd.C_below HR0_0.out HB.out)))); (case side2 => exact HC0_0.out); (case side3 => exact (Cu ((Kd.C_below HR0_1.out HB.out)))); (case side4 => exact HC0_1.out); rintro e w19 ⟨rfl, hb⟩; refine ⟨_, rfl, ?_⟩; replace BK180 := Aside0.mk (Bb BK180.out hb); replace BK181 := Aside0.mk (Bb BK181.out hb); replace HB := Aside0.mk (below_step (HBu HB.out) hb); (try clear hb); (try clear hb2); (try clear hk); (try clear hi)))
     go_meet
     case rel => exact ⟨_, (true), (by first | rfl | (simp; done) | (simp [*]; done)), H', ⟨by first | omega | exact Nat.le_refl _⟩, ⟨by (with_reducible repeat (first | refine blk_drewN ?_ _ | refine blk_drew ?_ | refine blk_alloc ?_ _)); exact BK180.out⟩, ⟨by (with_reducible repeat (first | refine blk_drewN ?_ _ | refine blk_drew ?_ | refine blk_alloc ?_ _)); exact BK181.out⟩, ⟨HBu HB.out⟩⟩
    ·rw [if_neg c16] at H
     have c16b0 : decide (a2 < 1) = false := decide_eq_false c16
     clear c16
     by_cases c20 : a3 < 1
     ·rw [if_pos c20] at H
      have c20b0 : decide (a3 < 1) = true := decide_eq_true c20
      clear c20
      have H' := Aside0.mk H
      clear H
      have hnb21 := NB180_181.out
      have hnc21 := NB181_180.out
      have hcz22_0 : w7.cell? ⟨gb180, 0, none⟩ = some (.slice A0_0 l0_0.length c0_0) := (blk_cell BK180.out 0).trans rfl
      have hcz22_1 : w7.cell? ⟨gb180, 1, none⟩ = some (.slice A0_1 l0_1.length c0_1) := (blk_cell BK180.out 1).trans rfl
      have hfz22_0 := blk_frozen BK180.out 0
      have hfz22_1 := blk_frozen BK180.out 1
      go_wp2_with (first | ((with_reducible refine gate_callee (f := 34) rfl ?_); refine goesL_ (some 22) rfl rfl Try.func34 (by kernel_rfl) rfl #[.agg #[.slice A0_0 l0_0.length c0_0, .slice A0_1 l0_1.length c0_1], .int .i64 a1] rfl (by (try simp only [List.map_toArray, List.map_cons, List.map_nil]); first | done | rfl | (simp only [List.length_drop, List.length_take]; rfl)) ?_; (with_reducible refine (spec_l4Axis.calls k _ _ l0_0 _ _ l0_1 a1 true _ ?side1 ?side2 ?side3 ?side4 A10.out).mono ?_); (case side1 => exact (Cu ((Kd.C_below HR0_0.out HB.out)))); (case side2 => exact HC0_0.out); (case side3 => exact (Cu ((Kd.C_below HR0_1.out HB.out)))); (case side4 => exact HC0_1.out); rintro e w23 ⟨rfl, hb⟩; refine ⟨_, rfl, ?_⟩; replace BK180 := Aside0.mk (Bb BK180.out hb); replace BK181 := Aside0.mk (Bb BK181.out hb); replace HB := Aside0.mk (below_step (HBu HB.out) hb); (try clear hb); (try clear hb2); (try clear hk); (try clear hi)))
      go_meet
      case rel => exact ⟨_, (true), (by first | rfl | (simp; done) | (simp [*]; done)), H', ⟨by first | omega | exact Nat.le_refl _⟩, ⟨by (with_reducible repeat (first | refine blk_drewN ?_ _ | refine blk_drew ?_ | refine blk_alloc ?_ _)); exact BK180.out⟩, ⟨by (with_reducible repeat (first | refine blk_drewN ?_ _ | refine blk_drew ?_ | refine blk_alloc ?_ _)); exact BK181.out⟩, ⟨HBu HB.out⟩⟩
     ·rw [if_neg c20] at H
      have c20b0 : decide (a3 < 1) = false := decide_eq_false c20
      clear c20
      have H' := Aside0.mk H
      clear H
      have hnb24 := NB180_181.out
      have hnc24 := NB181_180.out
      have hcz25_0 : w7.cell? ⟨gb180, 0, none⟩ = some (.slice A0_0 l0_0.length c0_0) := (blk_cell BK180.out 0).trans rfl
      have hcz25_1 : w7.cell? ⟨gb180, 1, none⟩ = some (.slice A0_1 l0_1.length c0_1) := (blk_cell BK180.out 1).trans rfl
      have hfz25_0 := blk_frozen BK180.out 0
      have hfz25_1 := blk_frozen BK180.out 1
      go_wp2_with (first | ((with_reducible refine gate_callee (f := 34) rfl ?_); refine goesL_ (some 22) rfl rfl Try.func34 (by kernel_rfl) rfl #[.agg #[.slice A0_0 l0_0.length c0_0, .slice A0_1 l0_1.length c0_1], .int .i64 a1] rfl (by (try simp only [List.map_toArray, List.map_cons, List.map_nil]); first | done | rfl | (simp only [List.length_drop, List.length_take]; rfl)) ?_; (with_reducible refine (spec_l4Axis.calls k _ _ l0_0 _ _ l0_1 a1 true _ ?side1 ?side2 ?side3 ?side4 A10.out).mono ?_); (case side1 => exact (Cu ((Kd.C_below HR0_0.out HB.out)))); (case side2 => exact HC0_0.out); (case side3 => exact (Cu ((Kd.C_below HR0_1.out HB.out)))); (case side4 => exact HC0_1.out); rintro e w26 ⟨rfl, hb⟩; refine ⟨_, rfl, ?_⟩; replace BK180 := Aside0.mk (Bb BK180.out hb); replace BK181 := Aside0.mk (Bb BK181.out hb); replace HB := Aside0.mk (below_step (HBu HB.out) hb); (try clear hb); (try clear hb2); (try clear hk); (try clear hi)))
      go_meet
      case rel => exact ⟨_, (decide (a3 > 4096)), (by first | rfl | (simp; done) | (simp [*]; done)), H', ⟨by first | omega | exact Nat.le_refl _⟩, ⟨by (with_reducible repeat (first | refine blk_drewN ?_ _ | refine blk_drew ?_ | refine blk_alloc ?_ _)); exact BK180.out⟩, ⟨by (with_reducible repeat (first | refine blk_drewN ?_ _ | refine blk_drew ?_ | refine blk_alloc ?_ _)); exact BK181.out⟩, ⟨HBu HB.out⟩⟩
  ·replace c11 := Bool.eq_false_iff.mpr c11
   subst c11
   have H1 : (spec_Fold.j0 k a1 a2 a3 (wrap64 ((l0_0.length : Int) - 1)) true l0_0 l0_1) = some (r1, r2) := by rw [if_neg (show ¬ (false = true) by decide)] at H; exact H
   clear H
   have H := H1
   clear H1
   have H' := Aside0.mk H
   clear H
   have hnb27 := NB180_181.out
   have hnc27 := NB181_180.out
   have hcz28_0 : w7.cell? ⟨gb180, 0, none⟩ = some (.slice A0_0 l0_0.length c0_0) := (blk_cell BK180.out 0).trans rfl
   have hcz28_1 : w7.cell? ⟨gb180, 1, none⟩ = some (.slice A0_1 l0_1.length c0_1) := (blk_cell BK180.out 1).trans rfl
   have hfz28_0 := blk_frozen BK180.out 0
   have hfz28_1 := blk_frozen BK180.out 1
   go_wp2_with (first | ((with_reducible refine gate_callee (f := 34) rfl ?_); refine goesL_ (some 22) rfl rfl Try.func34 (by kernel_rfl) rfl #[.agg #[.slice A0_0 l0_0.length c0_0, .slice A0_1 l0_1.length c0_1], .int .i64 a1] rfl (by (try simp only [List.map_toArray, List.map_cons, List.map_nil]); first | done | rfl | (simp only [List.length_drop, List.length_take]; rfl)) ?_; (with_reducible refine (spec_l4Axis.calls k _ _ l0_0 _ _ l0_1 a1 false _ ?side1 ?side2 ?side3 ?side4 A10.out).mono ?_); (case side1 => exact (Cu ((Kd.C_below HR0_0.out HB.out)))); (case side2 => exact HC0_0.out); (case side3 => exact (Cu ((Kd.C_below HR0_1.out HB.out)))); (case side4 => exact HC0_1.out); rintro e w29 ⟨rfl, hb⟩; refine ⟨_, rfl, ?_⟩; replace BK180 := Aside0.mk (Bb BK180.out hb); replace BK181 := Aside0.mk (Bb BK181.out hb); replace HB := Aside0.mk (below_step (HBu HB.out) hb); (try clear hb); (try clear hb2); (try clear hk); (try clear hi)))
   go_meet
   case rel => exact ⟨_, (true), (by first | rfl | (simp; done) | (simp [*]; done)), H', ⟨by first | omega | exact Nat.le_refl _⟩, ⟨by (with_reducible repeat (first | refine blk_drewN ?_ _ | refine blk_drew ?_ | refine blk_alloc ?_ _)); exact BK180.out⟩, ⟨by (with_reducible repeat (first | refine blk_drewN ?_ _ | refine blk_drew ?_ | refine blk_alloc ?_ _)); exact BK181.out⟩, ⟨HBu HB.out⟩⟩
 case rest =>
  clear HC5
  try clear c1
  try clear c2
  try clear p2
  try clear c3
  try clear p6
  try clear c8
  try clear c11
  try clear c12
  try clear c12b0
  try clear c12b1
  try clear c13
  try clear c16
  try clear c16b0
  try clear c17
  try clear c20
  try clear c20b0
  try clear c21
  try clear c24
  try clear c27
  try clear hcz14_0
  try clear hcz14_1
  try clear hcz18_0
  try clear hcz18_1
  try clear hcz22_0
  try clear hcz22_1
  try clear hcz25_0
  try clear hcz25_1
  try clear hcz28_0
  try clear hcz28_1
  try clear hcz9_0
  try clear hcz9_1
  try clear hfz14_0
  try clear hfz14_1
  try clear hfz18_0
  try clear hfz18_1
  try clear hfz22_0
  try clear hfz22_1
  try clear hfz25_0
  try clear hfz25_1
  try clear hfz28_0
  try clear hfz28_1
  try clear hfz9_0
  try clear hfz9_1
  obtain ⟨kq, x40_4, rfl, HA, HJ4, BK180, BK181, HB⟩ := hcut
  cases kq with
  | zero => exact absurd HA.out (by simp [spec_Fold.j0])
  | succ kj4 =>
   have H := HA.out
   clear HA
   simp only [spec_Fold.j0] at H
   by_cases c30 : x40_4 = true
   ·subst c30
    have H1 : (some (([] : List Int), ([] : List Int))) = some (r1, r2) := by rw [if_pos rfl] at H; exact H
    clear H
    have H := H1
    clear H1
    simp only [Option.some.injEq, Prod.mk.injEq] at H
    obtain ⟨rfl, rfl⟩ := H
    have hnb31 := NB181_180.out
    have hnc31 := NB180_181.out
    have hcz32_0 : wc.cell? ⟨gb181, 0, none⟩ = some (.slice none 0 0) := (blk_cell BK181.out 0).trans rfl
    have hcz32_1 : wc.cell? ⟨gb181, 1, none⟩ = some (.slice none 0 0) := (blk_cell BK181.out 1).trans rfl
    have hfz32_0 := blk_frozen BK181.out 0
    have hfz32_1 := blk_frozen BK181.out 1
    go_wp2
    refine bodyPost_ret (results_cell_row rfl _ _ gb181 26 #[.slice none 0 0, .slice none 0 0] (0, 0) _ rfl (by (with_reducible repeat (first | refine blk_drewN ?_ _ | refine blk_drew ?_ | refine blk_alloc ?_ _)); refine blk_put (cs := #[.slice none 0 0, .slice none 0 0]) ?_ 1 _ rfl; (with_reducible repeat (first | refine blk_drewN ?_ _ | refine blk_drew ?_ | refine blk_alloc ?_ _)); refine blk_put (cs := #[.slice none 0 0, .slice none 0 0]) ?_ 0 _ rfl; (with_reducible repeat (first | refine blk_drewN ?_ _ | refine blk_drew ?_ | refine blk_alloc ?_ _)); exact BK181.out) Try.underlying26 rfl (by kernel_rfl)) rfl ?_
    exact ⟨_, _, by first | rfl | (simp [errW_none, errW_some] <;> rfl) | (simp [*, errW_none, errW_some] <;> rfl), by first | exact Kd.R_nil _ _ _ _ _ | exact Kd.N_nil _ _ _ _ _ | exact Kd.V_nil _ _ _ _ _ | exact Kd.Q_nil _ _ _ _ _ | exact Kd.S_nil _ _ _ _ _, by first | exact Kd.R_nil _ _ _ _ _ | exact Kd.N_nil _ _ _ _ _ | exact Kd.V_nil _ _ _ _ _ | exact Kd.Q_nil _ _ _ _ _ | exact Kd.S_nil _ _ _ _ _, HBu HB.out⟩
   ·replace c30 := Bool.eq_false_iff.mpr c30
    subst c30
    have H1 : (if 0 ≤ (wrap64 ((l0_0.length : Int) - 1)) then (if (wrap64 ((l0_0.length : Int) - 1)) < (l0_0.length : Int) then (if (rd l0_0 (wrap64 ((l0_0.length : Int) - 1))) > a3 then (spec_Fold.j1 kj4 a1 a2 a3 (wrap64 ((l0_0.length : Int) - 1)) true l0_0 l0_1) else (if a2 = 0 then (none) else (if 0 ≤ a1 then (if a1 < (l0_0.length : Int) then (spec_Fold.j1 kj4 a1 a2 a3 (wrap64 ((l0_0.length : Int) - 1)) ((wrap64 ((wrap64 (Int.tdiv (wrap64 (a3 - (rd l0_0 (wrap64 ((l0_0.length : Int) - 1))))) a2)) + 1)) != (rd l0_0 a1)) l0_0 l0_1) else (none)) else (none)))) else (none)) else (none)) = some (r1, r2) := by rw [if_neg (show ¬ (false = true) by decide)] at H; exact H
    clear H
    have H := H1
    clear H1
    obtain ⟨ji33, hji33⟩ : ∃ j_ : Int, (wrap64 ((l0_0.length : Int) - 1)) = j_ := ⟨_, rfl⟩
    replace H : (if 0 ≤ (ji33) then (if (ji33) < (l0_0.length : Int) then (if (rd l0_0 (ji33)) > a3 then (spec_Fold.j1 kj4 a1 a2 a3 (ji33) true l0_0 l0_1) else (if a2 = 0 then (none) else (if 0 ≤ a1 then (if a1 < (l0_0.length : Int) then (spec_Fold.j1 kj4 a1 a2 a3 (ji33) ((wrap64 ((wrap64 (Int.tdiv (wrap64 (a3 - (rd l0_0 (ji33)))) a2)) + 1)) != (rd l0_0 a1)) l0_0 l0_1) else (none)) else (none)))) else (none)) else (none)) = some (r1, r2) := by first | (rw [hji33] at H; exact H) | (simp only [hji33] at H ⊢; exact H)
    have hji33w : (IntKind.i64.wrap ((l0_0.length : Int) - 1)) = ji33 := (i64_w _).trans hji33
    by_cases c34 : 0 ≤ (ji33)
    ·rw [if_pos c34] at H
     have c34b0 : decide (0 ≤ (ji33)) = true := decide_eq_true c34
     clear c34
     by_cases c35 : (ji33) < (l0_0.length : Int)
     ·rw [if_pos c35] at H
      have c35b0 : decide ((ji33) < (l0_0.length : Int)) = true := decide_eq_true c35
      clear c35
      have HC36 := Aside0.mk H
      clear H
      have hnb37 := NB180_181.out
      have hnc37 := NB181_180.out
      have hcz38_0 : wc.cell? ⟨gb180, 0, none⟩ = some (.slice A0_0 l0_0.length c0_0) := (blk_cell BK180.out 0).trans rfl
      have hcz38_1 : wc.cell? ⟨gb180, 1, none⟩ = some (.slice A0_1 l0_1.length c0_1) := (blk_cell BK180.out 1).trans rfl
      have hfz38_0 := blk_frozen BK180.out 0
      have hfz38_1 := blk_frozen BK180.out 1
      have p183 : 0 ≤ ((ji33) : Int) := of_decide_eq_true (by first | (with_reducible assumption) | assumption)
      have q183 : (ji33) < (l0_0.length : Int) := of_decide_eq_true (by first | (with_reducible assumption) | assumption)
      obtain ⟨ad183, e183, hx183_0⟩ := Kd.at_int HR0_0.out (ji33) p183 q183
      cases e183
      replace hx183_0 := (HB.out.cell (World.block_lt_of_cell? w _ hx183_0)).trans hx183_0
      replace p183 := eq_true p183
      replace q183 := eq_true q183
      go_upto_region 5 with (fail)
      (try simp only [hji33])
      go_cut [63] (fun v63 wc => ∃ (kq : Nat) (x63_35 : Bool), v63 = .bool x63_35 ∧ Aside0 (spec_Fold.j1 kq a1 a2 a3 (ji33) x63_35 l0_0 l0_1 = some (r1, r2)) ∧ Aside0 (kq ≤ kj4) ∧ Aside0 (wc.heap[gb180]? = some (.cells #[(.slice (some ad183) l0_0.length c0_0), (.slice A0_1 l0_1.length c0_1)] 26 (0, 0))) ∧ Aside0 (wc.heap[gb181]? = some (.cells #[(.slice none 0 0), (.slice none 0 0)] 26 (0, 0))) ∧ Aside0 (Below w.heap.size w wc))
      case first =>
       have H := HC36.out
       clear HC36
       by_cases c39 : (rd l0_0 (ji33)) > a3
       ·rw [if_pos c39] at H
        have c39b0 : decide (a3 < (rd l0_0 (ji33))) = true := decide_eq_true c39
        clear c39
        (first | rw [c39b0] | (simp only [i64_w, i32_w]; rw [c39b0]) | skip)
        have H' := Aside0.mk H
        clear H
        try go_wp2
        replace BK180 := Aside0.mk (blk_drew BK180.out)
        replace BK181 := Aside0.mk (blk_drew BK181.out)
        replace HB := Aside0.mk (below_drew1 HB.out)
        refine start_ (n := 17) (S := fun w' => True) (ds := []) #[F4_,F4_,F4_,F4_,F4_,F4_,F4_,F4_,F4_,F4_,F4_,F4_,F4_,F4_,F4_,F4_,F4_] (by kernel_rfl) rfl rfl trivial (fun hHeld => ?_); refine with_tabW spec_Fold.tab5 spec_Fold.bits5 (fun HT_ HW_ => ?_)
        generalize wc.drew = w40 at BK180 BK181 HB hHeld ⊢
        refine pure_ (i := 0) (N := some 47) (v := ?_) (a' := ?_) #[T4_,F4_,F4_,F4_,F4_,F4_,F4_,F4_,F4_,F4_,F4_,F4_,F4_,F4_,F4_,F4_,F4_] rfl rfl (any_of HT_.out (by kernel_rfl)) (fun _ _ _ h => h) (Or.inl ⟨by rfl, ?_⟩) ?_ ?_
        rotate_left
        ·intro w'
         go_simp
         with_reducible rfl
        rotate_left
        ·simp only [Act.put, List.setIfInBounds_toArray, List.set_cons_zero, List.set_cons_succ, i64_w, i32_w]
         rfl
        refine pure_ (i := 1) (N := some 48) (v := ?_) (a' := ?_) #[T4_,T4_,F4_,F4_,F4_,F4_,F4_,F4_,F4_,F4_,F4_,F4_,F4_,F4_,F4_,F4_,F4_] rfl rfl (any_of HT_.out (by kernel_rfl)) (fun _ _ _ h => h) (Or.inl ⟨by rfl, ?_⟩) ?_ ?_
        rotate_left
        ·intro w'
         go_simp
         with_reducible rfl
        rotate_left
        ·simp only [Act.put, List.setIfInBounds_toArray, List.set_cons_zero, List.set_cons_succ, i64_w, i32_w]
         rfl
        refine pure_ (i := 2) (N := some 49) (v := ?_) (a' := ?_) #[T4_,T4_,T4_,F4_,F4_,F4_,F4_,F4_,F4_,F4_,F4_,F4_,F4_,F4_,F4_,F4_,F4_] rfl rfl (any_of HT_.out (by kernel_rfl)) (fun _ _ _ h => h) (Or.inl ⟨by rfl, ?_⟩) ?_ ?_
        rotate_left
        ·intro w'
         go_simp
         with_reducible rfl
        rotate_left
        ·simp only [Act.put, List.setIfInBounds_toArray, List.set_cons_zero, List.set_cons_succ, i64_w, i32_w]
         rfl
        refine pure_ (i := 3) (N := some 50) (v := ?_) (a' := ?_) #[T4_,T4_,T4_,T4_,F4_,F4_,F4_,F4_,F4_,F4_,F4_,F4_,F4_,F4_,F4_,F4_,F4_] rfl rfl (any_of HT_.out (by kernel_rfl)) (fun _ _ _ h => h) (Or.inl ⟨by rfl, ?_⟩) ?_ ?_
        rotate_left
        ·intro w'
         go_simp
         with_reducible rfl
        rotate_left
        ·simp only [Act.put, List.setIfInBounds_toArray, List.set_cons_zero, List.set_cons_succ, i64_w, i32_w]
         rfl
        refine pure_ (i := 4) (N := some 51) (v := undef) (a' := ?_) #[T4_,T4_,T4_,T4_,T4_,F4_,F4_,F4_,F4_,F4_,F4_,F4_,F4_,F4_,F4_,F4_,F4_] rfl rfl (any_of HT_.out (by kernel_rfl)) (fun _ _ _ h => h) (Or.inr ⟨by rfl, rfl⟩) ?_ ?_
        rotate_left
        ·simp only [Act.put, List.setIfInBounds_toArray, List.set_cons_zero, List.set_cons_succ, i64_w, i32_w]
         rfl
        refine pure_ (i := 5) (N := some 52) (v := undef) (a' := ?_) #[T4_,T4_,T4_,T4_,T4_,T4_,F4_,F4_,F4_,F4_,F4_,F4_,F4_,F4_,F4_,F4_,F4_] rfl rfl (any_of HT_.out (by kernel_rfl)) (fun _ _ _ h => h) (Or.inr ⟨by rfl, rfl⟩) ?_ ?_
        rotate_left
        ·simp only [Act.put, List.setIfInBounds_toArray, List.set_cons_zero, List.set_cons_succ, i64_w, i32_w]
         rfl
        refine pure_ (i := 6) (N := some 53) (v := undef) (a' := ?_) #[T4_,T4_,T4_,T4_,T4_,T4_,T4_,F4_,F4_,F4_,F4_,F4_,F4_,F4_,F4_,F4_,F4_] rfl rfl (any_of HT_.out (by kernel_rfl)) (fun _ _ _ h => h) (Or.inr ⟨by rfl, rfl⟩) ?_ ?_
        rotate_left
        ·simp only [Act.put, List.setIfInBounds_toArray, List.set_cons_zero, List.set_cons_succ, i64_w, i32_w]
         rfl
        refine pure_ (i := 7) (N := some 54) (v := undef) (a' := ?_) #[T4_,T4_,T4_,T4_,T4_,T4_,T4_,T4_,F4_,F4_,F4_,F4_,F4_,F4_,F4_,F4_,F4_] rfl rfl (any_of HT_.out (by kernel_rfl)) (fun _ _ _ h => h) (Or.inr ⟨by rfl, rfl⟩) ?_ ?_
        rotate_left
        ·simp only [Act.put, List.setIfInBounds_toArray, List.set_cons_zero, List.set_cons_succ, i64_w, i32_w]
         rfl
        refine pure_ (i := 8) (N := some 55) (v := undef) (a' := ?_) #[T4_,T4_,T4_,T4_,T4_,T4_,T4_,T4_,T4_,F4_,F4_,F4_,F4_,F4_,F4_,F4_,F4_] rfl rfl (any_of HT_.out (by kernel_rfl)) (fun _ _ _ h => h) (Or.inr ⟨by rfl, rfl⟩) ?_ ?_
        rotate_left
        ·simp only [Act.put, List.setIfInBounds_toArray, List.set_cons_zero, List.set_cons_succ, i64_w, i32_w]
         rfl
        refine pure_ (i := 9) (N := some 56) (v := undef) (a' := ?_) #[T4_,T4_,T4_,T4_,T4_,T4_,T4_,T4_,T4_,T4_,F4_,F4_,F4_,F4_,F4_,F4_,F4_] rfl rfl (any_of HT_.out (by kernel_rfl)) (fun _ _ _ h => h) (Or.inr ⟨by rfl, rfl⟩) ?_ ?_
        rotate_left
        ·simp only [Act.put, List.setIfInBounds_toArray, List.set_cons_zero, List.set_cons_succ, i64_w, i32_w]
         rfl
        refine pure_ (i := 10) (N := some 57) (v := undef) (a' := ?_) #[T4_,T4_,T4_,T4_,T4_,T4_,T4_,T4_,T4_,T4_,T4_,F4_,F4_,F4_,F4_,F4_,F4_] rfl rfl (any_of HT_.out (by kernel_rfl)) (fun _ _ _ h => h) (Or.inr ⟨by rfl, rfl⟩) ?_ ?_
        rotate_left
        ·simp only [Act.put, List.setIfInBounds_toArray, List.set_cons_zero, List.set_cons_succ, i64_w, i32_w]
         rfl
        refine pure_ (i := 11) (N := some 58) (v := undef) (a' := ?_) #[T4_,T4_,T4_,T4_,T4_,T4_,T4_,T4_,T4_,T4_,T4_,T4_,F4_,F4_,F4_,F4_,F4_] rfl rfl (any_of HT_.out (by kernel_rfl)) (fun _ _ _ h => h) (Or.inr ⟨by rfl, rfl⟩) ?_ ?_
        rotate_left
        ·simp only [Act.put, List.setIfInBounds_toArray, List.set_cons_zero, List.set_cons_succ, i64_w, i32_w]
         rfl
        refine pure_ (i := 12) (N := some 59) (v := undef) (a' := ?_) #[T4_,T4_,T4_,T4_,T4_,T4_,T4_,T4_,T4_,T4_,T4_,T4_,T4_,F4_,F4_,F4_,F4_] rfl rfl (any_of HT_.out (by kernel_rfl)) (fun _ _ _ h => h) (Or.inr ⟨by rfl, rfl⟩) ?_ ?_
        rotate_left
        ·simp only [Act.put, List.setIfInBounds_toArray, List.set_cons_zero, List.set_cons_succ, i64_w, i32_w]
         rfl
        refine pure_ (i := 13) (N := some 60) (v := undef) (a' := ?_) #[T4_,T4_,T4_,T4_,T4_,T4_,T4_,T4_,T4_,T4_,T4_,T4_,T4_,T4_,F4_,F4_,F4_] rfl rfl (any_of HT_.out (by kernel_rfl)) (fun _ _ _ h => h) (Or.inr ⟨by rfl, rfl⟩) ?_ ?_
        rotate_left
        ·simp only [Act.put, List.setIfInBounds_toArray, List.set_cons_zero, List.set_cons_succ, i64_w, i32_w]
         rfl
        refine pure_ (i := 14) (N := some 61) (v := undef) (a' := ?_) #[T4_,T4_,T4_,T4_,T4_,T4_,T4_,T4_,T4_,T4_,T4_,T4_,T4_,T4_,T4_,F4_,F4_] rfl rfl (any_of HT_.out (by kernel_rfl)) (fun _ _ _ h => h) (Or.inr ⟨by rfl, rfl⟩) ?_ ?_
        rotate_left
        ·simp only [Act.put, List.setIfInBounds_toArray, List.set_cons_zero, List.set_cons_succ, i64_w, i32_w]
         rfl
        refine pure_ (i := 15) (N := some 62) (v := undef) (a' := ?_) #[T4_,T4_,T4_,T4_,T4_,T4_,T4_,T4_,T4_,T4_,T4_,T4_,T4_,T4_,T4_,T4_,F4_] rfl rfl (any_of HT_.out (by kernel_rfl)) (fun _ _ _ h => h) (Or.inr ⟨by rfl, rfl⟩) ?_ ?_
        rotate_left
        ·simp only [Act.put, List.setIfInBounds_toArray, List.set_cons_zero, List.set_cons_succ, i64_w, i32_w]
         rfl
        refine pure_ (i := 16) (N := some 63) (v := ?_) (a' := ?_) #[T4_,T4_,T4_,T4_,T4_,T4_,T4_,T4_,T4_,T4_,T4_,T4_,T4_,T4_,T4_,T4_,T4_] rfl rfl (any_of HT_.out (by kernel_rfl)) (fun _ _ _ h => h) (Or.inl ⟨by rfl, ?_⟩) ?_ ?_
        rotate_left
        ·intro w'
         go_simp
         with_reducible rfl
        rotate_left
        ·simp only [Act.put, List.setIfInBounds_toArray, List.set_cons_zero, List.set_cons_succ, i64_w, i32_w]
         rfl
        refine done_ (done_of HT_.out (by kernel_rfl)) ?_
        try go_wp2
        go_meet
        case rel => exact ⟨_, (true), (by first | rfl | (simp; done) | (simp [*]; done)), (by first | exact H' | exact ⟨by rw [hji33]; exact H'.out⟩ | exact ⟨by rw [← hji33]; exact H'.out⟩), ⟨by have := HJ4.out; first | omega | exact Nat.le_refl _⟩, ⟨by (with_reducible repeat (first | refine blk_drewN ?_ _ | refine blk_drew ?_ | refine blk_alloc ?_ _)); exact BK180.out⟩, ⟨by (with_reducible repeat (first | refine blk_drewN ?_ _ | refine blk_drew ?_ | refine blk_alloc ?_ _)); exact BK181.out⟩, ⟨HBu HB.out⟩⟩
       ·rw [if_neg c39] at H
        have c39b0 : decide (a3 < (rd l0_0 (ji33))) = false := decide_eq_false c39
        clear c39
        (first | rw [c39b0] | (simp only [i64_w, i32_w]; rw [c39b0]) | skip)
        by_cases c41 : a2 = 0
        ·rw [if_pos c41] at H
         exact absurd H (by simp)
        ·rw [if_neg c41] at H
         have c41b0 : (a2 == 0) = false := beq_eq_false_iff_ne.mpr c41
         have c41b1 : (a2 != 0) = true := bne_iff_ne.mpr c41
         by_cases c42 : 0 ≤ a1
         ·rw [if_pos c42] at H
          have c42b0 : decide (0 ≤ a1) = true := decide_eq_true c42
          clear c42
          by_cases c43 : a1 < (l0_0.length : Int)
          ·rw [if_pos c43] at H
           have c43b0 : decide (a1 < (l0_0.length : Int)) = true := decide_eq_true c43
           clear c43
           have H' := Aside0.mk H
           clear H
           try go_wp2
           replace BK180 := Aside0.mk (blk_drew BK180.out)
           replace BK181 := Aside0.mk (blk_drew BK181.out)
           replace HB := Aside0.mk (below_drew1 HB.out)
           have p184 : 0 ≤ (a1 : Int) := of_decide_eq_true (by first | (with_reducible assumption) | assumption)
           have q184 : a1 < (l0_0.length : Int) := of_decide_eq_true (by first | (with_reducible assumption) | assumption)
           obtain ⟨ad184, e184, hx184_0⟩ := Kd.at_int HR0_0.out a1 p184 q184
           have hw184_0 := hx184_0
           obtain rfl : ad183 = ad184 := (by injection e184)
           replace hx184_0 := (HB.out.cell (World.block_lt_of_cell? w _ hx184_0)).trans hx184_0
           replace p184 := eq_true p184
           replace q184 := eq_true q184
           refine start_ (n := 17) (S := fun w' => w'.cell? ⟨gb180, 0, none⟩ = some (.slice (some ad183) l0_0.length c0_0) ∧ w'.cell? ⟨gb180, 1, none⟩ = some (.slice A0_1 l0_1.length c0_1) ∧ w'.cell? (ad183.add (a1).toNat) = some (.int .i64 (rd l0_0 a1))) (ds := []) #[F4_,F4_,F4_,F4_,F4_,F4_,F4_,F4_,F4_,F4_,F4_,F4_,F4_,F4_,F4_,F4_,F4_] (by kernel_rfl) rfl rfl ⟨(blk_cell BK180.out 0).trans rfl, (blk_cell BK180.out 1).trans rfl, ((HB.out.cell (World.block_lt_of_cell? w _ hw184_0)).trans hw184_0)⟩ (fun hHeld => ?_); refine with_tabW spec_Fold.tab5 spec_Fold.bits5 (fun HT_ HW_ => ?_)
           generalize wc.drew = w44 at BK180 BK181 HB hx184_0 hHeld ⊢
           refine pure_ (i := 0) (N := some 47) (v := ?_) (a' := ?_) #[T4_,F4_,F4_,F4_,F4_,F4_,F4_,F4_,F4_,F4_,F4_,F4_,F4_,F4_,F4_,F4_,F4_] rfl rfl (any_of HT_.out (by kernel_rfl)) (fun _ _ _ h => h) (Or.inl ⟨by rfl, ?_⟩) ?_ ?_
           rotate_left
           ·intro w'
            go_simp
            with_reducible rfl
           rotate_left
           ·simp only [Act.put, List.setIfInBounds_toArray, List.set_cons_zero, List.set_cons_succ, i64_w, i32_w]
            rfl
           refine pure_ (i := 1) (N := some 48) (v := ?_) (a' := ?_) #[T4_,T4_,F4_,F4_,F4_,F4_,F4_,F4_,F4_,F4_,F4_,F4_,F4_,F4_,F4_,F4_,F4_] rfl rfl (any_of HT_.out (by kernel_rfl)) (fun _ _ _ h => h) (Or.inl ⟨by rfl, ?_⟩) ?_ ?_
           rotate_left
           ·intro w'
            go_simp
            with_reducible rfl
           rotate_left
           ·simp only [Act.put, List.setIfInBounds_toArray, List.set_cons_zero, List.set_cons_succ, i64_w, i32_w]
            rfl
           refine pure_ (i := 2) (N := some 49) (v := ?_) (a' := ?_) #[T4_,T4_,T4_,F4_,F4_,F4_,F4_,F4_,F4_,F4_,F4_,F4_,F4_,F4_,F4_,F4_,F4_] rfl rfl (any_of HT_.out (by kernel_rfl)) (fun _ _ _ h => h) (Or.inl ⟨by rfl, ?_⟩) ?_ ?_
           rotate_left
           ·intro w'
            go_simp
            with_reducible rfl
           rotate_left
           ·simp only [Act.put, List.setIfInBounds_toArray, List.set_cons_zero, List.set_cons_succ, i64_w, i32_w]
            rfl
           refine pure_ (i := 3) (N := some 50) (v := ?_) (a' := ?_) #[T4_,T4_,T4_,T4_,F4_,F4_,F4_,F4_,F4_,F4_,F4_,F4_,F4_,F4_,F4_,F4_,F4_] rfl rfl (any_of HT_.out (by kernel_rfl)) (fun _ _ _ h => h) (Or.inl ⟨by rfl, ?_⟩) ?_ ?_
           rotate_left
           ·intro w'
            go_simp
            with_reducible rfl
           rotate_left
           ·simp only [Act.put, List.setIfInBounds_toArray, List.set_cons_zero, List.set_cons_succ, i64_w, i32_w]
            rfl
           refine pure_ (i := 4) (N := some 51) (v := ?_) (a' := ?_) #[T4_,T4_,T4_,T4_,T4_,F4_,F4_,F4_,F4_,F4_,F4_,F4_,F4_,F4_,F4_,F4_,F4_] rfl rfl (any_of HT_.out (by kernel_rfl)) (fun _ _ _ h => h) (Or.inl ⟨by rfl, ?_⟩) ?_ ?_
           rotate_left
           ·intro w'
            go_simp
            with_reducible rfl
           rotate_left
           ·simp only [Act.put, List.setIfInBounds_toArray, List.set_cons_zero, List.set_cons_succ, i64_w, i32_w]
            rfl
           refine pure_ (i := 5) (N := some 52) (v := ?_) (a' := ?_) #[T4_,T4_,T4_,T4_,T4_,T4_,F4_,F4_,F4_,F4_,F4_,F4_,F4_,F4_,F4_,F4_,F4_] rfl rfl (any_of HT_.out (by kernel_rfl)) (fun _ _ _ h => h) (Or.inl ⟨by rfl, ?_⟩) ?_ ?_
           rotate_left
           ·intro w'
            go_simp
            with_reducible rfl
           rotate_left
           ·simp only [Act.put, List.setIfInBounds_toArray, List.set_cons_zero, List.set_cons_succ, i64_w, i32_w]
            rfl
           refine pure_ (i := 6) (N := some 53) (v := ?_) (a' := ?_) #[T4_,T4_,T4_,T4_,T4_,T4_,T4_,F4_,F4_,F4_,F4_,F4_,F4_,F4_,F4_,F4_,F4_] rfl rfl (any_of HT_.out (by kernel_rfl)) (fun _ _ _ h => h) (Or.inl ⟨by rfl, ?_⟩) ?_ ?_
           rotate_left
           ·intro w'
            go_simp
            with_reducible rfl
           rotate_left
           ·simp only [Act.put, List.setIfInBounds_toArray, List.set_cons_zero, List.set_cons_succ, i64_w, i32_w]
            rfl
           refine pure_ (i := 7) (N := some 54) (v := ?_) (a' := ?_) #[T4_,T4_,T4_,T4_,T4_,T4_,T4_,T4_,F4_,F4_,F4_,F4_,F4_,F4_,F4_,F4_,F4_] rfl rfl (any_of HT_.out (by kernel_rfl)) (fun _ _ _ h => h) (Or.inl ⟨by rfl, ?_⟩) ?_ ?_
           rotate_left
           ·intro w'
            go_simp
            with_reducible rfl
           rotate_left
           ·simp only [Act.put, List.setIfInBounds_toArray, List.set_cons_zero, List.set_cons_succ, i64_w, i32_w]
            rfl
           refine pure_ (i := 8) (N := some 55) (v := ?_) (a' := ?_) #[T4_,T4_,T4_,T4_,T4_,T4_,T4_,T4_,T4_,F4_,F4_,F4_,F4_,F4_,F4_,F4_,F4_] rfl rfl (any_of HT_.out (by kernel_rfl)) (fun _ _ _ h => h) (Or.inl ⟨by rfl, ?_⟩) ?_ ?_
           rotate_left
           ·intro w'
            go_simp
            with_reducible rfl
           rotate_left
           ·simp only [Act.put, List.setIfInBounds_toArray, List.set_cons_zero, List.set_cons_succ, i64_w, i32_w]
            rfl
           refine pure_ (i := 9) (N := some 56) (v := ?_) (a' := ?_) #[T4_,T4_,T4_,T4_,T4_,T4_,T4_,T4_,T4_,T4_,F4_,F4_,F4_,F4_,F4_,F4_,F4_] rfl rfl (any_of HT_.out (by kernel_rfl)) (fun _ _ _ h => h) (Or.inl ⟨by rfl, ?_⟩) ?_ ?_
           rotate_left
           ·intro w'
            go_simp
            with_reducible rfl
           rotate_left
           ·simp only [Act.put, List.setIfInBounds_toArray, List.set_cons_zero, List.set_cons_succ, i64_w, i32_w]
            rfl
           refine pure_ (i := 10) (N := some 57) (v := ?_) (a' := ?_) #[T4_,T4_,T4_,T4_,T4_,T4_,T4_,T4_,T4_,T4_,T4_,F4_,F4_,F4_,F4_,F4_,F4_] rfl rfl (any_of HT_.out (by kernel_rfl)) (fun _ _ _ h => h) (Or.inl ⟨by rfl, ?_⟩) ?_ ?_
           rotate_left
           ·intro w'
            go_simp
            with_reducible rfl
           rotate_left
           ·simp only [Act.put, List.setIfInBounds_toArray, List.set_cons_zero, List.set_cons_succ, i64_w, i32_w]
            rfl
           refine pure_ (i := 12) (N := some 59) (v := ?_) (a' := ?_) #[T4_,T4_,T4_,T4_,T4_,T4_,T4_,T4_,T4_,T4_,T4_,F4_,T4_,F4_,F4_,F4_,F4_] rfl rfl (any_of HT_.out (by kernel_rfl)) (fun _ _ _ h => h) (Or.inl ⟨by rfl, ?_⟩) ?_ ?_
           rotate_left
           ·intro w'
            go_simp
            with_reducible rfl
           rotate_left
           ·simp only [Act.put, List.setIfInBounds_toArray, List.set_cons_zero, List.set_cons_succ, i64_w, i32_w]
            rfl
           refine take_ (i := 11) (N := some 58) (v := ?_) (a' := ?_) #[T4_,T4_,T4_,T4_,T4_,T4_,T4_,T4_,T4_,T4_,T4_,T4_,T4_,F4_,F4_,F4_,F4_] rfl rfl (take_ofW HT_.out HW_.out (by kernel_rfl)) (fun _ _ _ h => h) (Or.inl ⟨by rfl, ?_⟩) hHeld ?_ ?_
           rotate_left
           ·rintro w' ⟨s0, s1, s2⟩
            go_simp
            with_reducible rfl
           rotate_left
           ·simp only [Act.put, List.setIfInBounds_toArray, List.set_cons_zero, List.set_cons_succ, i64_w, i32_w]
            rfl
           refine pure_ (i := 13) (N := some 60) (v := ?_) (a' := ?_) #[T4_,T4_,T4_,T4_,T4_,T4_,T4_,T4_,T4_,T4_,T4_,T4_,T4_,T4_,F4_,F4_,F4_] rfl rfl (any_of HT_.out (by kernel_rfl)) (fun _ _ _ h => h) (Or.inl ⟨by rfl, ?_⟩) ?_ ?_
           rotate_left
           ·intro w'
            go_simp
            with_reducible rfl
           rotate_left
           ·simp only [Act.put, List.setIfInBounds_toArray, List.set_cons_zero, List.set_cons_succ, i64_w, i32_w]
            rfl
           refine take_ (i := 14) (N := some 61) (v := ?_) (a' := ?_) #[T4_,T4_,T4_,T4_,T4_,T4_,T4_,T4_,T4_,T4_,T4_,T4_,T4_,T4_,T4_,F4_,F4_] rfl rfl (take_ofW HT_.out HW_.out (by kernel_rfl)) (fun _ _ _ h => h) (Or.inl ⟨by rfl, ?_⟩) hHeld ?_ ?_
           rotate_left
           ·rintro w' ⟨s0, s1, s2⟩
            go_simp
            with_reducible rfl
           rotate_left
           ·simp only [Act.put, List.setIfInBounds_toArray, List.set_cons_zero, List.set_cons_succ, i64_w, i32_w]
            rfl
           refine pure_ (i := 15) (N := some 62) (v := ?_) (a' := ?_) #[T4_,T4_,T4_,T4_,T4_,T4_,T4_,T4_,T4_,T4_,T4_,T4_,T4_,T4_,T4_,T4_,F4_] rfl rfl (any_of HT_.out (by kernel_rfl)) (fun _ _ _ h => h) (Or.inl ⟨by rfl, ?_⟩) ?_ ?_
           rotate_left
           ·intro w'
            go_simp
            with_reducible rfl
           rotate_left
           ·simp only [Act.put, List.setIfInBounds_toArray, List.set_cons_zero, List.set_cons_succ, i64_w, i32_w]
            rfl
           refine pure_ (i := 16) (N := some 63) (v := ?_) (a' := ?_) #[T4_,T4_,T4_,T4_,T4_,T4_,T4_,T4_,T4_,T4_,T4_,T4_,T4_,T4_,T4_,T4_,T4_] rfl rfl (any_of HT_.out (by kernel_rfl)) (fun _ _ _ h => h) (Or.inl ⟨by rfl, ?_⟩) ?_ ?_
           rotate_left
           ·intro w'
            go_simp
            with_reducible rfl
           rotate_left
           ·simp only [Act.put, List.setIfInBounds_toArray, List.set_cons_zero, List.set_cons_succ, i64_w, i32_w]
            rfl
           refine done_ (done_of HT_.out (by kernel_rfl)) ?_
           try go_wp2
           go_meet
           case rel => exact ⟨_, (((wrap64 ((wrap64 (Int.tdiv (wrap64 (a3 - (rd l0_0 (ji33)))) a2)) + 1)) != (rd l0_0 a1))), (by first | rfl | (simp; done) | (simp only [← hji33] <;> (first | rfl | simp)) | (simp [*]; done)), (by first | exact H' | exact ⟨by rw [hji33]; exact H'.out⟩ | exact ⟨by rw [← hji33]; exact H'.out⟩), ⟨by have := HJ4.out; first | omega | exact Nat.le_refl _⟩, ⟨by (with_reducible repeat (first | refine blk_drewN ?_ _ | refine blk_drew ?_ | refine blk_alloc ?_ _)); exact BK180.out⟩, ⟨by (with_reducible repeat (first | refine blk_drewN ?_ _ | refine blk_drew ?_ | refine blk_alloc ?_ _)); exact BK181.out⟩, ⟨HBu HB.out⟩⟩
          ·rw [if_neg c43] at H
           exact absurd H (by simp)
         ·rw [if_neg c42] at H
          exact absurd H (by simp)
      case rest =>
       clear HC36
       try clear c1
       try clear p1
       try clear q1
       try clear hx1
       try clear c2
       try clear p2
       try clear c3
       try clear c4
       try clear p6
       try clear c8
       try clear c11
       try clear c12
       try clear c12b0
       try clear c12b1
       try clear c13
       try clear c16
       try clear c16b0
       try clear c17
       try clear p18
       try clear q18
       try clear hx18
       try clear c20
       try clear c20b0
       try clear c21
       try clear c24
       try clear c27
       try clear c30
       try clear c31
       try clear c34
       try clear c34b0
       try clear c35
       try clear c35b0
       try clear c37
       try clear c39
       try clear c39b0
       try clear c41
       try clear c41b0
       try clear c41b1
       try clear c42
       try clear c42b0
       try clear c43
       try clear c43b0
       try clear hcz14_0
       try clear hcz14_1
       try clear hcz18_0
       try clear hcz18_1
       try clear hcz22_0
       try clear hcz22_1
       try clear hcz25_0
       try clear hcz25_1
       try clear hcz28_0
       try clear hcz28_1
       try clear hcz32_0
       try clear hcz32_1
       try clear hcz38_0
       try clear hcz38_1
       try clear hcz9_0
       try clear hcz9_1
       try clear hfz14_0
       try clear hfz14_1
       try clear hfz18_0
       try clear hfz18_1
       try clear hfz22_0
       try clear hfz22_1
       try clear hfz25_0
       try clear hfz25_1
       try clear hfz28_0
       try clear hfz28_1
       try clear hfz32_0
       try clear hfz32_1
       try clear hfz38_0
       try clear hfz38_1
       try clear hfz9_0
       try clear hfz9_1
       try clear hx183_0
       try clear hx184_0
       try clear p183
       try clear p184
       try clear p2
       try clear p6
       try clear q183
       try clear q184
       obtain ⟨kq, x63_35, rfl, HA, HJ35, BK180, BK181, HB⟩ := hcut
       (try clear hji33x); (try clear hji33y); (try clear hji33v); (try clear hji33u); (try clear hji33z); (try clear hji33_); (try clear hji33)
       cases kq with
       | zero => exact absurd HA.out (by simp [spec_Fold.j1])
       | succ kj35 =>
        have H := HA.out
        clear HA
        simp only [spec_Fold.j1] at H
        by_cases c45 : x63_35 = true
        ·subst c45
         have H1 : (some (([] : List Int), ([] : List Int))) = some (r1, r2) := by rw [if_pos rfl] at H; exact H
         clear H
         have H := H1
         clear H1
         simp only [Option.some.injEq, Prod.mk.injEq] at H
         obtain ⟨rfl, rfl⟩ := H
         have hnb46 := NB181_180.out
         have hnc46 := NB180_181.out
         have hcz47_0 : wc.cell? ⟨gb181, 0, none⟩ = some (.slice none 0 0) := (blk_cell BK181.out 0).trans rfl
         have hcz47_1 : wc.cell? ⟨gb181, 1, none⟩ = some (.slice none 0 0) := (blk_cell BK181.out 1).trans rfl
         have hfz47_0 := blk_frozen BK181.out 0
         have hfz47_1 := blk_frozen BK181.out 1
         go_wp2
         refine bodyPost_ret (results_cell_row rfl _ _ gb181 26 #[.slice none 0 0, .slice none 0 0] (0, 0) _ rfl (by (with_reducible repeat (first | refine blk_drewN ?_ _ | refine blk_drew ?_ | refine blk_alloc ?_ _)); refine blk_put (cs := #[.slice none 0 0, .slice none 0 0]) ?_ 1 _ rfl; (with_reducible repeat (first | refine blk_drewN ?_ _ | refine blk_drew ?_ | refine blk_alloc ?_ _)); refine blk_put (cs := #[.slice none 0 0, .slice none 0 0]) ?_ 0 _ rfl; (with_reducible repeat (first | refine blk_drewN ?_ _ | refine blk_drew ?_ | refine blk_alloc ?_ _)); exact BK181.out) Try.underlying26 rfl (by kernel_rfl)) rfl ?_
         exact ⟨_, _, by first | rfl | (simp [errW_none, errW_some] <;> rfl) | (simp only [← hji33]; first | rfl | (simp [errW_none, errW_some] <;> rfl)) | (simp [*, errW_none, errW_some] <;> rfl), by first | exact Kd.R_nil _ _ _ _ _ | exact Kd.N_nil _ _ _ _ _ | exact Kd.V_nil _ _ _ _ _ | exact Kd.Q_nil _ _ _ _ _ | exact Kd.S_nil _ _ _ _ _, by first | exact Kd.R_nil _ _ _ _ _ | exact Kd.N_nil _ _ _ _ _ | exact Kd.V_nil _ _ _ _ _ | exact Kd.Q_nil _ _ _ _ _ | exact Kd.S_nil _ _ _ _ _, HBu HB.out⟩
        ·replace c45 := Bool.eq_false_iff.mpr c45
         subst c45
         have H1 : ((spec_l4With.f l0_0 a1 a3).bind fun t185 => (if 0 ≤ (ji33) then (if (ji33) ≤ (t185.length : Int) then ((some (t185.take ((ji33) : Int).toNat : List Int)).bind fun y188 => ((spec_DimsOk.f kj35 y188).bind fun t191 => (if t191 = true then ((spec_l4New.f kj35 y188).bind fun bt192 => (spec_Fold.l0 kj35 a1 a2 (ji33) 0 l0_0 l0_1 bt192.1 bt192.2)) else (some (([] : List Int), ([] : List Int)))))) else (none)) else (none))) = some (r1, r2) := by rw [if_neg (show ¬ (false = true) by decide)] at H; exact H
         clear H
         have H := H1
         clear H1
         replace H := Option.bind_eq_some_iff.mp H
         obtain ⟨t185, A480, H⟩ := H
         replace H : (if 0 ≤ (ji33) then (if (ji33) ≤ (t185.length : Int) then ((some (t185.take ((ji33) : Int).toNat : List Int)).bind fun y188 => ((spec_DimsOk.f kj35 y188).bind fun t191 => (if t191 = true then ((spec_l4New.f kj35 y188).bind fun bt192 => (spec_Fold.l0 kj35 a1 a2 (ji33) 0 l0_0 l0_1 bt192.1 bt192.2)) else (some (([] : List Int), ([] : List Int)))))) else (none)) else (none)) = some (r1, r2) := H
         have A48 := Aside0.mk A480
         clear A480
         by_cases c49 : 0 ≤ (ji33)
         ·rw [if_pos c49] at H
          have c49b0 := eq_true c49
          have c49b1 : decide (0 ≤ (ji33)) = true := decide_eq_true c49
          clear c49
          by_cases c50 : (ji33) ≤ (t185.length : Int)
          ·rw [if_pos c50] at H
           have c50b0 := eq_true c50
           have c50b1 : decide ((ji33) ≤ (t185.length : Int)) = true := decide_eq_true c50
           clear c50
           obtain ⟨y188, hy188⟩ : ∃ y_ : List Int, y_ = (t185.take ((ji33) : Int).toNat) := ⟨_, rfl⟩
           replace H : ((spec_DimsOk.f kj35 y188).bind fun t191 => (if t191 = true then ((spec_l4New.f kj35 y188).bind fun bt192 => (spec_Fold.l0 kj35 a1 a2 (ji33) 0 l0_0 l0_1 bt192.1 bt192.2)) else (some (([] : List Int), ([] : List Int))))) = some (r1, r2) := by first | (rw [hy188]; with_reducible exact H) | (have H2_ := (Option.bind_some _ _).symm.trans H; rw [hy188]; with_reducible exact H2_) | (have H2_ := (Option.bind_some _ _).symm.trans H; with_reducible exact H2_) | with_reducible exact H | (rw [hy188]; exact H) | exact H
           have Ny188 := Aside0.mk hy188
           clear hy188
           replace H := Option.bind_eq_some_iff.mp H
           obtain ⟨t191, A510, H⟩ := H
           replace H : (if t191 = true then ((spec_l4New.f kj35 y188).bind fun bt192 => (spec_Fold.l0 kj35 a1 a2 (ji33) 0 l0_0 l0_1 bt192.1 bt192.2)) else (some (([] : List Int), ([] : List Int)))) = some (r1, r2) := H
           have A51 := Aside0.mk A510
           clear A510
           by_cases c52 : t191 = true
           ·subst c52
            have H1 : ((spec_l4New.f kj35 y188).bind fun bt192 => (spec_Fold.l0 kj35 a1 a2 (ji33) 0 l0_0 l0_1 bt192.1 bt192.2)) = some (r1, r2) := by rw [if_pos rfl] at H; exact H
            clear H
            have H := H1
            clear H1
            replace H := Option.bind_eq_some_iff.mp H
            obtain ⟨⟨t192, t195⟩, A530, H⟩ := H
            replace H : (spec_Fold.l0 kj35 a1 a2 (ji33) 0 l0_0 l0_1 t192 t195) = some (r1, r2) := H
            have A53 := Aside0.mk A530
            clear A530
            have H' := Aside0.mk H
            clear H
            have hnb54 := NB180_181.out
            have hnc54 := NB181_180.out
            have hcz55_0 : wc.cell? ⟨gb180, 0, none⟩ = some (.slice (some ad183) l0_0.length c0_0) := (blk_cell BK180.out 0).trans rfl
            have hcz55_1 : wc.cell? ⟨gb180, 1, none⟩ = some (.slice A0_1 l0_1.length c0_1) := (blk_cell BK180.out 1).trans rfl
            have hfz55_0 := blk_frozen BK180.out 0
            have hfz55_1 := blk_frozen BK180.out 1
            go_wp2_with (first | ((with_reducible refine gate_callee (f := 60) rfl ?_); refine goesL_ (some 69) rfl rfl Try.func60 (by kernel_rfl) rfl #[.slice (some ad183) l0_0.length c0_0, .int .i64 a1, .int .i64 a3] rfl (by (try simp only [List.map_toArray, List.map_cons, List.map_nil]); first | done | rfl | (simp only [List.length_drop, List.length_take]; rfl)) ?_; (with_reducible refine (spec_l4With.calls _ _ l0_0 a1 a3 t185 _ ?side1 ?side2 A48.out).mono ?_); (case side1 => exact (Cu ((Kd.C_below HR0_0.out HB.out)))); (case side2 => exact HC0_0.out); rintro e w56 ⟨v186, rfl, ho0, hb⟩; refine ⟨_, rfl, ?_⟩; have HO187 := Aside0.mk (Kd.R_lower ho0 (below_size (HBu HB.out))); replace BK180 := Aside0.mk (Bb BK180.out hb); replace BK181 := Aside0.mk (Bb BK181.out hb); replace HB := Aside0.mk (below_step (HBu HB.out) hb); (try clear hb); (try clear hb2); (try clear hk); (try clear hi); (try clear ho0); obtain ⟨Ao57, co57, eo57⟩ := Kd.R_slice HO187.out; subst eo57; have q58 : ((ji33) : Int) ≤ ((t185.length : Int) : Int) := of_decide_eq_true (by first | (with_reducible assumption) | assumption); obtain ⟨i058, hi058, _, hsz58, _⟩ := info_parts info3; have hcut58 := cut_to (P := Try.prog) 22 3 .i64 Try.underlying22 hi058 Ao57 t185.length co57 (ji33) (of_decide_eq_true (by first | (with_reducible assumption) | assumption)) q58 (Kd.R_reads' HO187.out).2.1; have hr58 := Kd.R_take (m := ((ji33) : Int).toNat) HO187.out (by omega); have hy58 : y188.length = ((ji33) : Int).toNat := (by rw [Ny188.out, List.length_take]; omega); rw [← Ny188.out] at hr58; rw [← hy58] at hr58 hcut58; clear hy58 hi058 hsz58 HO187; have HO190 := Aside0.mk hr58; clear hr58; replace q58 := eq_true q58) | ((with_reducible refine gate_callee (f := 61) rfl ?_); refine goesL_ (some 73) rfl rfl Try.func61 (by kernel_rfl) rfl #[.slice Ao57 y188.length co57] rfl (by (try simp only [List.map_toArray, List.map_cons, List.map_nil]); first | done | rfl | (simp only [List.length_drop, List.length_take]; rfl)) ?_; (with_reducible refine (spec_DimsOk.calls kj35 _ _ y188 true _ ?side1 ?side2 A51.out).mono ?_); (case side1 => exact (Cu ((Kd.R_reads' HO190.out).2.2))); (case side2 => exact (Kd.R_reads' HO190.out).2.1); rintro e w' ⟨rfl, ⟨nd, rfl⟩⟩; refine ⟨_, rfl, ?_⟩; (try (rw [drewN_self w56]; generalize hq_ : World.drewN w56 _ = w56; have n0_ : Aside0 (Kd.R (Kd.int .i64) 3 w56 w.heap.size (fun _ => True) (.slice Ao57 y188.length co57) y188) := ⟨by rw [← hq_]; exact (Ru HO190.out)⟩; have n1_ : Aside0 (w56.heap[gb180]? = some (.cells #[.slice (some ad183) l0_0.length c0_0, .slice A0_1 l0_1.length c0_1] 26 (0, 0))) := ⟨by rw [← hq_]; exact (Bu BK180.out)⟩; have n2_ : Aside0 (w56.heap[gb181]? = some (.cells #[.slice none 0 0, .slice none 0 0] 26 (0, 0))) := ⟨by rw [← hq_]; exact (Bu BK181.out)⟩; have n3_ : Aside0 (Below w.heap.size w w56) := ⟨by rw [← hq_]; exact (HBu HB.out)⟩; clear HO190 BK180 BK181 HB hq_; have HO190 := n0_; have BK180 := n1_; have BK181 := n2_; have HB := n3_; clear n0_ n1_ n2_ n3_))) | ((with_reducible refine gate_callee (f := 35) rfl ?_); refine goesL_ (some 77) rfl rfl Try.func35 (by kernel_rfl) rfl #[.slice Ao57 y188.length co57] rfl (by (try simp only [List.map_toArray, List.map_cons, List.map_nil]); first | done | rfl | (simp only [List.length_drop, List.length_take]; rfl)) ?_; (with_reducible refine (spec_l4New.calls kj35 _ _ y188 t192 t195 _ ?side1 ?side2 A53.out).mono ?_); (case side1 => exact (Cu ((Kd.R_reads' HO190.out).2.2))); (case side2 => exact (Kd.R_reads' HO190.out).2.1); rintro e w59 ⟨v193, v196, rfl, ho0, ho1, hb⟩; refine ⟨_, rfl, ?_⟩; have HO194 := Aside0.mk (Kd.R_lower (Kd.R_new' ho0 (Kd.R_lt (Ru HO190.out))) (below_size (HBu HB.out))); have HO197 := Aside0.mk (Kd.R_lower (Kd.R_new' ho1 (Kd.R_lt (Ru HO190.out))) (below_size (HBu HB.out))); replace HO190 := Aside0.mk (Rt2 HO190.out hb ho0 ho1); replace BK180 := Aside0.mk (Bb BK180.out hb); replace BK181 := Aside0.mk (Bb BK181.out hb); replace HB := Aside0.mk (below_step (HBu HB.out) hb); (try clear hb); (try clear hb2); (try clear hk); (try clear hi); (try clear ho0); (try clear ho1)) | ((with_reducible refine gate_dst (N := 12) rfl ?_); refine box_event ?hg (N := 12) ?hd (cs := #[.slice none 0 0, .slice none 0 0]) (t := 26) ?hr ?_; (case hd => rfl); (case hg => rfl); (case hr => first | (go_simp; done) | (go_simp; rfl)); intro gb198 hg w60 hbox hb; have BK198 := Aside0.mk (hbox); have GW198 := Aside0.mk ((by rw [hg]; exact (below_size (HBu HB.out)) : w.heap.size ≤ gb198)); have GE198 := Aside0.mk ((by rw [hg]; exact (below_size (HBu HB.out)) : w.heap.size ≤ gb198)); have NB180_198 := Aside0.mk ((by rw [hg]; exact Nat.ne_of_lt (blk_lt (g := gb180) (o := .cells #[.slice (some ad183) l0_0.length c0_0, .slice A0_1 l0_1.length c0_1] 26 (0, 0)) (Bu BK180.out)) : gb180 ≠ gb198)); have NB198_180 := Aside0.mk ((by rw [hg]; exact Nat.ne_of_gt (blk_lt (g := gb180) (o := .cells #[.slice (some ad183) l0_0.length c0_0, .slice A0_1 l0_1.length c0_1] 26 (0, 0)) (Bu BK180.out)) : gb198 ≠ gb180)); have NB181_198 := Aside0.mk ((by rw [hg]; exact Nat.ne_of_lt (blk_lt (g := gb181) (o := .cells #[.slice none 0 0, .slice none 0 0] 26 (0, 0)) (Bu BK181.out)) : gb181 ≠ gb198)); have NB198_181 := Aside0.mk ((by rw [hg]; exact Nat.ne_of_gt (blk_lt (g := gb181) (o := .cells #[.slice none 0 0, .slice none 0 0] 26 (0, 0)) (Bu BK181.out)) : gb198 ≠ gb181)); replace HO190 := Aside0.mk (Rb HO190.out hb); replace HO194 := Aside0.mk (Rb HO194.out hb); replace HO197 := Aside0.mk (Rb HO197.out hb); replace BK180 := Aside0.mk (Bb BK180.out hb); replace BK181 := Aside0.mk (Bb BK181.out hb); replace HB := Aside0.mk (below_step (HBu HB.out) hb); clear hb hbox hg; obtain ⟨Ao61, co61, eo61⟩ := Kd.R_slice HO194.out; subst eo61; have hnb62 := NB198_180.out; have hnc62 := NB180_198.out; have hnb63 := NB198_181.out; have hnc63 := NB181_198.out; have hcz64_0 : w60.cell? ⟨gb198, 0, none⟩ = some (.slice none 0 0) := (blk_cell BK198.out 0).trans rfl; have hcz64_1 : w60.cell? ⟨gb198, 1, none⟩ = some (.slice none 0 0) := (blk_cell BK198.out 1).trans rfl; have hfz64_0 := blk_frozen BK198.out 0; have hfz64_1 := blk_frozen BK198.out 1; obtain ⟨Ao65, co65, eo65⟩ := Kd.R_slice HO197.out; subst eo65))
            go_loopg [13] kj35 (fun kq v13 w' => ∃ (x13_3 : Int) (x199000_3 : List Int) (x199001_3 : List Int) (u199000 : Value) (u199001 : Value), v13 = .int .i64 x13_3 ∧ Aside0 (spec_Fold.l0 kq a1 a2 (ji33) x13_3 l0_0 l0_1 x199000_3 x199001_3 = some (r1, r2)) ∧ Aside0 (kq ≤ kj35) ∧ Aside0 (Kd.R (Kd.int .i64) 3 w' w.heap.size (fun k_ => some k_ ≠ (u199001 : Value).ownBlock) u199000 x199000_3) ∧ Aside0 (Kd.R (Kd.int .i64) 3 w' w.heap.size (fun k_ => some k_ ≠ (u199000 : Value).ownBlock) u199001 x199001_3) ∧ Aside0 (w'.heap[gb180]? = some (.cells #[(.slice (some ad183) l0_0.length c0_0), (.slice A0_1 l0_1.length c0_1)] 26 (0, 0))) ∧ Aside0 (w'.heap[gb181]? = some (.cells #[(.slice none 0 0), (.slice none 0 0)] 26 (0, 0))) ∧ Aside0 (w'.heap[gb198]? = some (.cells #[u199000, u199001] 26 (0, 0))) ∧ Aside0 (Below w.heap.size w w'))
            case atStart => exact ⟨(0), (t192), (t195), (.slice Ao61 t192.length co61), (.slice Ao65 t195.length co65), (by first | rfl | (simp; done) | (simp [*]; done)), H', ⟨Nat.le_refl _⟩, ⟨by (with_reducible repeat (first | apply Kd.R_alloc | apply Kd.R_drewN | apply Kd.R_drew)); exact Kd.R_mono (Kd.R_far (p := ⟨gb198, 1, none⟩) (Kd.R_far (p := ⟨gb198, 0, none⟩) (Kd.R_types HO194.out BK198.out (by decide)) (fun _ hk => hk.2) (.slice Ao61 t192.length co61)) (fun _ hk => hk.2) (.slice Ao65 t195.length co65)) (fun _ hk => hk.1.1)⟩, ⟨by (with_reducible repeat (first | apply Kd.R_alloc | apply Kd.R_drewN | apply Kd.R_drew)); exact Kd.R_mono (Kd.R_far (p := ⟨gb198, 1, none⟩) (Kd.R_far (p := ⟨gb198, 0, none⟩) (Kd.R_types HO197.out BK198.out (by decide)) (fun _ hk => hk.2) (.slice Ao61 t192.length co61)) (fun _ hk => hk.2) (.slice Ao65 t195.length co65)) (fun _ hk => hk.1.1)⟩, ⟨by (with_reducible repeat (first | refine blk_drewN ?_ _ | refine blk_drew ?_ | refine blk_alloc ?_ _)); refine blk_far ?_ NB180_198.out _; (with_reducible repeat (first | refine blk_drewN ?_ _ | refine blk_drew ?_ | refine blk_alloc ?_ _)); refine blk_far ?_ NB180_198.out _; (with_reducible repeat (first | refine blk_drewN ?_ _ | refine blk_drew ?_ | refine blk_alloc ?_ _)); exact BK180.out⟩, ⟨by (with_reducible repeat (first | refine blk_drewN ?_ _ | refine blk_drew ?_ | refine blk_alloc ?_ _)); refine blk_far ?_ NB181_198.out _; (with_reducible repeat (first | refine blk_drewN ?_ _ | refine blk_drew ?_ | refine blk_alloc ?_ _)); refine blk_far ?_ NB181_198.out _; (with_reducible repeat (first | refine blk_drewN ?_ _ | refine blk_drew ?_ | refine blk_alloc ?_ _)); exact BK181.out⟩, ⟨by (with_reducible repeat (first | refine blk_drewN ?_ _ | refine blk_drew ?_ | refine blk_alloc ?_ _)); refine blk_put (cs := #[.slice Ao61 t192.length co61, .slice none 0 0]) ?_ 1 _ rfl; (with_reducible repeat (first | refine blk_drewN ?_ _ | refine blk_drew ?_ | refine blk_alloc ?_ _)); refine blk_put (cs := #[.slice none 0 0, .slice none 0 0]) ?_ 0 _ rfl; (with_reducible repeat (first | refine blk_drewN ?_ _ | refine blk_drew ?_ | refine blk_alloc ?_ _)); exact BK198.out⟩, ⟨HBu HB.out⟩⟩
            case round =>
             clear H'
             try clear c1
             try clear p1
             try clear q1
             try clear hx1
             try clear c2
             try clear p2
             try clear c3
             try clear c4
             try clear c5
             try clear q5
             try clear c6
             try clear p6
             try clear c8
             try clear c11
             try clear c12
             try clear c12b0
             try clear c12b1
             try clear c13
             try clear c16
             try clear c16b0
             try clear c17
             try clear p18
             try clear q18
             try clear hx18
             try clear c20
             try clear c20b0
             try clear c21
             try clear c24
             try clear c27
             try clear c30
             try clear c31
             try clear c34
             try clear c34b0
             try clear c35
             try clear c35b0
             try clear c37
             try clear c39
             try clear c39b0
             try clear c41
             try clear c41b0
             try clear c41b1
             try clear c42
             try clear c42b0
             try clear c43
             try clear c43b0
             try clear c45
             try clear c46
             try clear c49
             try clear c49b0
             try clear c49b1
             try clear c50
             try clear c50b0
             try clear c50b1
             try clear c52
             try clear c54
             try clear q58
             try clear c60
             try clear c61
             try clear c62
             try clear c63
             try clear p64
             try clear hcz14_0
             try clear hcz14_1
             try clear hcz18_0
             try clear hcz18_1
             try clear hcz22_0
             try clear hcz22_1
             try clear hcz25_0
             try clear hcz25_1
             try clear hcz28_0
             try clear hcz28_1
             try clear hcz32_0
             try clear hcz32_1
             try clear hcz38_0
             try clear hcz38_1
             try clear hcz47_0
             try clear hcz47_1
             try clear hcz55_0
             try clear hcz55_1
             try clear hcz64_0
             try clear hcz64_1
             try clear hcz9_0
             try clear hcz9_1
             try clear hfz14_0
             try clear hfz14_1
             try clear hfz18_0
             try clear hfz18_1
             try clear hfz22_0
             try clear hfz22_1
             try clear hfz25_0
             try clear hfz25_1
             try clear hfz28_0
             try clear hfz28_1
             try clear hfz32_0
             try clear hfz32_1
             try clear hfz38_0
             try clear hfz38_1
             try clear hfz47_0
             try clear hfz47_1
             try clear hfz55_0
             try clear hfz55_1
             try clear hfz64_0
             try clear hfz64_1
             try clear hfz9_0
             try clear hfz9_1
             try clear hx183_0
             try clear hx184_0
             try clear p1
             try clear p18
             try clear p183
             try clear p184
             try clear p2
             try clear p6
             try clear q1
             try clear q18
             try clear q183
             try clear q184
             try clear q58
             obtain ⟨x13_3, x199000_3, x199001_3, u199000, u199001, rfl, HA, HK3, HO_199000, HO_199001, BK180, BK181, BK198, HB⟩ := hrel
             cases gk with
             | zero => exact absurd HA.out (by simp [spec_Fold.l0])
             | succ k3 =>
              have H := HA.out
              clear HA
              simp only [spec_Fold.l0] at H
              by_cases c66 : x13_3 < (l0_1.length : Int)
              ·rw [if_pos c66] at H
               have c66b0 : decide (x13_3 < (l0_1.length : Int)) = true := decide_eq_true c66
               clear c66
               replace H := Option.bind_eq_some_iff.mp H
               obtain ⟨t199, A670, H⟩ := H
               replace H : (if 0 ≤ a1 then (if a1 < (t199.length : Int) then (if 0 ≤ (ji33) then (if (ji33) < (t199.length : Int) then ((spec_l4With.f t199 a1 (wrap64 ((wrap64 ((rd t199 a1) * a2)) + (rd t199 (ji33))))).bind fun t204 => (if (ji33) ≤ (t204.length : Int) then ((some (t204.take ((ji33) : Int).toNat : List Int)).bind fun y207 => ((spec_l4Get.f k3 x199000_3 x199001_3 y207).bind fun t210 => (if 0 ≤ x13_3 then ((spec_Plus.f t210 (rd l0_1 x13_3)).bind fun t212 => ((spec_l4Set.f k3 x199000_3 x199001_3 y207 t212).bind fun t213 => (spec_Fold.l0 k3 a1 a2 (ji33) (wrap64 (x13_3 + 1)) l0_0 l0_1 x199000_3 t213))) else (none)))) else (none))) else (none)) else (none)) else (none)) else (none)) = some (r1, r2) := H
               have A67 := Aside0.mk A670
               clear A670
               by_cases c68 : 0 ≤ a1
               ·rw [if_pos c68] at H
                have c68b0 : decide (0 ≤ a1) = true := decide_eq_true c68
                clear c68
                by_cases c69 : a1 < (t199.length : Int)
                ·rw [if_pos c69] at H
                 have c69b0 : decide (a1 < (t199.length : Int)) = true := decide_eq_true c69
                 clear c69
                 by_cases c70 : 0 ≤ (ji33)
                 ·rw [if_pos c70] at H
                  have c70b0 : decide (0 ≤ (ji33)) = true := decide_eq_true c70
                  clear c70
                  by_cases c71 : (ji33) < (t199.length : Int)
                  ·rw [if_pos c71] at H
                   have c71b0 : decide ((ji33) < (t199.length : Int)) = true := decide_eq_true c71
                   clear c71
                   replace H := Option.bind_eq_some_iff.mp H
                   obtain ⟨t204, A720, H⟩ := H
                   replace H : (if (ji33) ≤ (t204.length : Int) then ((some (t204.take ((ji33) : Int).toNat : List Int)).bind fun y207 => ((spec_l4Get.f k3 x199000_3 x199001_3 y207).bind fun t210 => (if 0 ≤ x13_3 then ((spec_Plus.f t210 (rd l0_1 x13_3)).bind fun t212 => ((spec_l4Set.f k3 x199000_3 x199001_3 y207 t212).bind fun t213 => (spec_Fold.l0 k3 a1 a2 (ji33) (wrap64 (x13_3 + 1)) l0_0 l0_1 x199000_3 t213))) else (none)))) else (none)) = some (r1, r2) := H
                   have A72 := Aside0.mk A720
                   clear A720
                   by_cases c73 : (ji33) ≤ (t204.length : Int)
                   ·rw [if_pos c73] at H
                    have c73b0 := eq_true c73
                    have c73b1 : decide ((ji33) ≤ (t204.length : Int)) = true := decide_eq_true c73
                    clear c73
                    obtain ⟨y207, hy207⟩ : ∃ y_ : List Int, y_ = (t204.take ((ji33) : Int).toNat) := ⟨_, rfl⟩
                    replace H : ((spec_l4Get.f k3 x199000_3 x199001_3 y207).bind fun t210 => (if 0 ≤ x13_3 then ((spec_Plus.f t210 (rd l0_1 x13_3)).bind fun t212 => ((spec_l4Set.f k3 x199000_3 x199001_3 y207 t212).bind fun t213 => (spec_Fold.l0 k3 a1 a2 (ji33) (wrap64 (x13_3 + 1)) l0_0 l0_1 x199000_3 t213))) else (none))) = some (r1, r2) := by first | (rw [hy207]; with_reducible exact H) | (have H2_ := (Option.bind_some _ _).symm.trans H; rw [hy207]; with_reducible exact H2_) | (have H2_ := (Option.bind_some _ _).symm.trans H; with_reducible exact H2_) | with_reducible exact H | (rw [hy207]; exact H) | exact H
                    have Ny207 := Aside0.mk hy207
                    clear hy207
                    replace H := Option.bind_eq_some_iff.mp H
                    obtain ⟨t210, A740, H⟩ := H
                    replace H : (if 0 ≤ x13_3 then ((spec_Plus.f t210 (rd l0_1 x13_3)).bind fun t212 => ((spec_l4Set.f k3 x199000_3 x199001_3 y207 t212).bind fun t213 => (spec_Fold.l0 k3 a1 a2 (ji33) (wrap64 (x13_3 + 1)) l0_0 l0_1 x199000_3 t213))) else (none)) = some (r1, r2) := H
                    have A74 := Aside0.mk A740
                    clear A740
                    by_cases c75 : 0 ≤ x13_3
                    ·rw [if_pos c75] at H
                     have c75b0 : decide (0 ≤ x13_3) = true := decide_eq_true c75
                     clear c75
                     replace H := Option.bind_eq_some_iff.mp H
                     obtain ⟨t212, A760, H⟩ := H
                     replace H : ((spec_l4Set.f k3 x199000_3 x199001_3 y207 t212).bind fun t213 => (spec_Fold.l0 k3 a1 a2 (ji33) (wrap64 (x13_3 + 1)) l0_0 l0_1 x199000_3 t213)) = some (r1, r2) := H
                     have A76 := Aside0.mk A760
                     clear A760
                     replace H := Option.bind_eq_some_iff.mp H
                     obtain ⟨t213, A770, H⟩ := H
                     replace H : (spec_Fold.l0 k3 a1 a2 (ji33) (wrap64 (x13_3 + 1)) l0_0 l0_1 x199000_3 t213) = some (r1, r2) := H
                     have A77 := Aside0.mk A770
                     clear A770
                     have H' := Aside0.mk H
                     clear H
                     have hnb78 := NB180_181.out
                     have hnc78 := NB181_180.out
                     have hnb79 := NB180_198.out
                     have hnc79 := NB198_180.out
                     have hcz80_0 : wr.cell? ⟨gb180, 0, none⟩ = some (.slice (some ad183) l0_0.length c0_0) := (blk_cell BK180.out 0).trans rfl
                     have hcz80_1 : wr.cell? ⟨gb180, 1, none⟩ = some (.slice A0_1 l0_1.length c0_1) := (blk_cell BK180.out 1).trans rfl
                     have hfz80_0 := blk_frozen BK180.out 0
                     have hfz80_1 := blk_frozen BK180.out 1
                     try go_wp2_with (first | ((with_reducible refine gate_callee (f := 36) rfl ?_); refine goesL_ (some 88) rfl rfl Try.func36 (by kernel_rfl) rfl #[.slice (some ad183) l0_0.length c0_0, .int .i64 x13_3] rfl (by (try simp only [List.map_toArray, List.map_cons, List.map_nil]); first | done | rfl | (simp only [List.length_drop, List.length_take]; rfl)) ?_; (with_reducible refine (spec_l3Index.calls k3 _ _ l0_0 x13_3 t199 _ ?side1 ?side2 A67.out).mono ?_); (case side1 => exact (Cu ((Kd.C_below HR0_0.out HB.out)))); (case side2 => exact HC0_0.out); rintro e w81 ⟨v200, rfl, ho0, hb⟩; refine ⟨_, rfl, ?_⟩; have HO201 := Aside0.mk (Kd.R_lower (Kd.R_new' (Kd.R_new' ho0 (Kd.R_lt (Ru HO_199000.out))) (Kd.R_lt (Ru HO_199001.out))) (below_size (HBu HB.out))); replace HO_199000 := Aside0.mk (Kd.R_elder' (Ru HO_199000.out) (Kd.R_base ho0) hb); replace HO_199001 := Aside0.mk (Kd.R_elder' (Ru HO_199001.out) (Kd.R_base ho0) hb); replace BK180 := Aside0.mk (Bb BK180.out hb); replace BK181 := Aside0.mk (Bb BK181.out hb); replace BK198 := Aside0.mk (Bb BK198.out hb); replace HB := Aside0.mk (below_step (HBu HB.out) hb); (try clear hb); (try clear hb2); (try clear hk); (try clear hi); (try clear ho0)))
                     replace HO_199000 := Aside0.mk (Kd.R_drew HO_199000.out)
                     replace HO_199001 := Aside0.mk (Kd.R_drew HO_199001.out)
                     replace HO201 := Aside0.mk (Kd.R_drew HO201.out)
                     replace BK180 := Aside0.mk (blk_drew BK180.out)
                     replace BK181 := Aside0.mk (blk_drew BK181.out)
                     replace BK198 := Aside0.mk (blk_drew BK198.out)
                     replace HB := Aside0.mk (below_drew1 HB.out)
                     obtain ⟨Ao83, co83, eo83⟩ := Kd.R_slice HO201.out
                     (first | subst eo83 | (injection eo83 with f1_ f2_ f3_; have f4_ := f1_.symm; have f5_ := f3_.symm; clear f1_ f2_ f3_; subst f4_; subst f5_))
                     have p202 : 0 ≤ (a1 : Int) := of_decide_eq_true (by first | (with_reducible assumption) | assumption)
                     have q202 : a1 < (t199.length : Int) := of_decide_eq_true (by first | (with_reducible assumption) | assumption)
                     obtain ⟨ad202, e202, hx202_0⟩ := Kd.at_int (Kd.R_reads' HO201.out).2.2 a1 p202 q202
                     cases e202
                     replace p202 := eq_true p202
                     replace q202 := eq_true q202
                     have p203 : 0 ≤ ((ji33) : Int) := of_decide_eq_true (by first | (with_reducible assumption) | assumption)
                     have q203 : (ji33) < (t199.length : Int) := of_decide_eq_true (by first | (with_reducible assumption) | assumption)
                     obtain ⟨ad203, e203, hx203_0⟩ := Kd.at_int (Kd.R_reads' HO201.out).2.2 (ji33) p203 q203
                     obtain rfl : ad202 = ad203 := (by injection e203)
                     replace p203 := eq_true p203
                     replace q203 := eq_true q203
                     refine start_ (n := 17) (S := fun w' => w'.cell? (ad202.add (a1).toNat) = some (.int .i64 (rd t199 a1)) ∧ w'.cell? (ad202.add ((ji33)).toNat) = some (.int .i64 (rd t199 (ji33)))) (ds := []) #[F4_,F4_,F4_,F4_,F4_,F4_,F4_,F4_,F4_,F4_,F4_,F4_,F4_,F4_,F4_,F4_,F4_] (by kernel_rfl) rfl rfl ⟨hx202_0, hx203_0⟩ (fun hHeld => ?_); refine with_tabW spec_Fold.tab15 spec_Fold.bits15 (fun HT_ HW_ => ?_)
                     generalize w81.drew = w82 at HO_199000 HO_199001 HO201 BK180 BK181 BK198 HB hx202_0 hx203_0 hHeld ⊢
                     refine pure_ (i := 0) (N := some 89) (v := ?_) (a' := ?_) #[T4_,F4_,F4_,F4_,F4_,F4_,F4_,F4_,F4_,F4_,F4_,F4_,F4_,F4_,F4_,F4_,F4_] rfl rfl (any_of HT_.out (by kernel_rfl)) (fun _ _ _ h => h) (Or.inl ⟨by rfl, ?_⟩) ?_ ?_
                     rotate_left
                     ·intro w'
                      go_simp
                      with_reducible rfl
                     rotate_left
                     ·simp only [Act.put, List.setIfInBounds_toArray, List.set_cons_zero, List.set_cons_succ, i64_w, i32_w]
                      rfl
                     refine pure_ (i := 1) (N := some 90) (v := ?_) (a' := ?_) #[T4_,T4_,F4_,F4_,F4_,F4_,F4_,F4_,F4_,F4_,F4_,F4_,F4_,F4_,F4_,F4_,F4_] rfl rfl (any_of HT_.out (by kernel_rfl)) (fun _ _ _ h => h) (Or.inl ⟨by rfl, ?_⟩) ?_ ?_
                     rotate_left
                     ·intro w'
                      go_simp
                      with_reducible rfl
                     rotate_left
                     ·simp only [Act.put, List.setIfInBounds_toArray, List.set_cons_zero, List.set_cons_succ, i64_w, i32_w]
                      rfl
                     refine pure_ (i := 2) (N := some 91) (v := ?_) (a' := ?_) #[T4_,T4_,T4_,F4_,F4_,F4_,F4_,F4_,F4_,F4_,F4_,F4_,F4_,F4_,F4_,F4_,F4_] rfl rfl (any_of HT_.out (by kernel_rfl)) (fun _ _ _ h => h) (Or.inl ⟨by rfl, ?_⟩) ?_ ?_
                     rotate_left
                     ·intro w'
                      go_simp
                      with_reducible rfl
                     rotate_left
                     ·simp only [Act.put, List.setIfInBounds_toArray, List.set_cons_zero, List.set_cons_succ, i64_w, i32_w]
                      rfl
                     refine pure_ (i := 3) (N := some 92) (v := ?_) (a' := ?_) #[T4_,T4_,T4_,T4_,F4_,F4_,F4_,F4_,F4_,F4_,F4_,F4_,F4_,F4_,F4_,F4_,F4_] rfl rfl (any_of HT_.out (by kernel_rfl)) (fun _ _ _ h => h) (Or.inl ⟨by rfl, ?_⟩) ?_ ?_
                     rotate_left
                     ·intro w'
                      go_simp
                      with_reducible rfl
                     rotate_left
                     ·simp only [Act.put, List.setIfInBounds_toArray, List.set_cons_zero, List.set_cons_succ, i64_w, i32_w]
                      rfl
                     refine pure_ (i := 4) (N := some 93) (v := ?_) (a' := ?_) #[T4_,T4_,T4_,T4_,T4_,F4_,F4_,F4_,F4_,F4_,F4_,F4_,F4_,F4_,F4_,F4_,F4_] rfl rfl (any_of HT_.out (by kernel_rfl)) (fun _ _ _ h => h) (Or.inl ⟨by rfl, ?_⟩) ?_ ?_
                     rotate_left
                     ·intro w'
                      go_simp
                      with_reducible rfl
                     rotate_left
                     ·simp only [Act.put, List.setIfInBounds_toArray, List.set_cons_zero, List.set_cons_succ, i64_w, i32_w]
                      rfl
                     refine pure_ (i := 6) (N := some 95) (v := ?_) (a' := ?_) #[T4_,T4_,T4_,T4_,T4_,F4_,T4_,F4_,F4_,F4_,F4_,F4_,F4_,F4_,F4_,F4_,F4_] rfl rfl (any_of HT_.out (by kernel_rfl)) (fun _ _ _ h => h) (Or.inl ⟨by rfl, ?_⟩) ?_ ?_
                     rotate_left
                     ·intro w'
                      go_simp
                      with_reducible rfl
                     rotate_left
                     ·simp only [Act.put, List.setIfInBounds_toArray, List.set_cons_zero, List.set_cons_succ, i64_w, i32_w]
                      rfl
                     refine pure_ (i := 8) (N := some 97) (v := ?_) (a' := ?_) #[T4_,T4_,T4_,T4_,T4_,F4_,T4_,F4_,T4_,F4_,F4_,F4_,F4_,F4_,F4_,F4_,F4_] rfl rfl (any_of HT_.out (by kernel_rfl)) (fun _ _ _ h => h) (Or.inl ⟨by rfl, ?_⟩) ?_ ?_
                     rotate_left
                     ·intro w'
                      go_simp
                      with_reducible rfl
                     rotate_left
                     ·simp only [Act.put, List.setIfInBounds_toArray, List.set_cons_zero, List.set_cons_succ, i64_w, i32_w]
                      rfl
                     refine pure_ (i := 9) (N := some 98) (v := ?_) (a' := ?_) #[T4_,T4_,T4_,T4_,T4_,F4_,T4_,F4_,T4_,T4_,F4_,F4_,F4_,F4_,F4_,F4_,F4_] rfl rfl (any_of HT_.out (by kernel_rfl)) (fun _ _ _ h => h) (Or.inl ⟨by rfl, ?_⟩) ?_ ?_
                     rotate_left
                     ·intro w'
                      go_simp
                      with_reducible rfl
                     rotate_left
                     ·simp only [Act.put, List.setIfInBounds_toArray, List.set_cons_zero, List.set_cons_succ, i64_w, i32_w]
                      rfl
                     refine pure_ (i := 10) (N := some 99) (v := ?_) (a' := ?_) #[T4_,T4_,T4_,T4_,T4_,F4_,T4_,F4_,T4_,T4_,T4_,F4_,F4_,F4_,F4_,F4_,F4_] rfl rfl (any_of HT_.out (by kernel_rfl)) (fun _ _ _ h => h) (Or.inl ⟨by rfl, ?_⟩) ?_ ?_
                     rotate_left
                     ·intro w'
                      go_simp
                      with_reducible rfl
                     rotate_left
                     ·simp only [Act.put, List.setIfInBounds_toArray, List.set_cons_zero, List.set_cons_succ, i64_w, i32_w]
                      rfl
                     refine pure_ (i := 14) (N := some 103) (v := ?_) (a' := ?_) #[T4_,T4_,T4_,T4_,T4_,F4_,T4_,F4_,T4_,T4_,T4_,F4_,F4_,F4_,T4_,F4_,F4_] rfl rfl (any_of HT_.out (by kernel_rfl)) (fun _ _ _ h => h) (Or.inl ⟨by rfl, ?_⟩) ?_ ?_
                     rotate_left
                     ·intro w'
                      go_simp
                      with_reducible rfl
                     rotate_left
                     ·simp only [Act.put, List.setIfInBounds_toArray, List.set_cons_zero, List.set_cons_succ, i64_w, i32_w]
                      rfl
                     refine take_ (i := 5) (N := some 94) (v := ?_) (a' := ?_) #[T4_,T4_,T4_,T4_,T4_,T4_,T4_,F4_,T4_,T4_,T4_,F4_,F4_,F4_,T4_,F4_,F4_] rfl rfl (take_ofW HT_.out HW_.out (by kernel_rfl)) (fun _ _ _ h => h) (Or.inl ⟨by rfl, ?_⟩) hHeld ?_ ?_
                     rotate_left
                     ·rintro w' ⟨s0, s1⟩
                      go_simp
                      with_reducible rfl
                     rotate_left
                     ·simp only [Act.put, List.setIfInBounds_toArray, List.set_cons_zero, List.set_cons_succ, i64_w, i32_w]
                      rfl
                     refine pure_ (i := 7) (N := some 96) (v := ?_) (a' := ?_) #[T4_,T4_,T4_,T4_,T4_,T4_,T4_,T4_,T4_,T4_,T4_,F4_,F4_,F4_,T4_,F4_,F4_] rfl rfl (any_of HT_.out (by kernel_rfl)) (fun _ _ _ h => h) (Or.inl ⟨by rfl, ?_⟩) ?_ ?_
                     rotate_left
                     ·intro w'
                      go_simp
                      with_reducible rfl
                     rotate_left
                     ·simp only [Act.put, List.setIfInBounds_toArray, List.set_cons_zero, List.set_cons_succ, i64_w, i32_w]
                      rfl
                     refine take_ (i := 11) (N := some 100) (v := ?_) (a' := ?_) #[T4_,T4_,T4_,T4_,T4_,T4_,T4_,T4_,T4_,T4_,T4_,T4_,F4_,F4_,T4_,F4_,F4_] rfl rfl (take_ofW HT_.out HW_.out (by kernel_rfl)) (fun _ _ _ h => h) (Or.inl ⟨by rfl, ?_⟩) hHeld ?_ ?_
                     rotate_left
                     ·rintro w' ⟨s0, s1⟩
                      go_simp
                      with_reducible rfl
                     rotate_left
                     ·simp only [Act.put, List.setIfInBounds_toArray, List.set_cons_zero, List.set_cons_succ, i64_w, i32_w]
                      rfl
                     refine pure_ (i := 12) (N := some 101) (v := ?_) (a' := ?_) #[T4_,T4_,T4_,T4_,T4_,T4_,T4_,T4_,T4_,T4_,T4_,T4_,T4_,F4_,T4_,F4_,F4_] rfl rfl (any_of HT_.out (by kernel_rfl)) (fun _ _ _ h => h) (Or.inl ⟨by rfl, ?_⟩) ?_ ?_
                     rotate_left
                     ·intro w'
                      go_simp
                      with_reducible rfl
                     rotate_left
                     ·simp only [Act.put, List.setIfInBounds_toArray, List.set_cons_zero, List.set_cons_succ, i64_w, i32_w]
                      rfl
                     refine one_ (i := 13) (N := some 102) #[T4_,T4_,T4_,T4_,T4_,T4_,T4_,T4_,T4_,T4_,T4_,T4_,T4_,T4_,T4_,F4_,F4_] rfl rfl (one_of HT_.out (by kernel_rfl)) (by decide) (fun K hK => ?_)
                     refine goes_ Try.func60 (by kernel_rfl) rfl #[.slice (some ad202) t199.length co83, .int .i64 a1, .int .i64 (wrap64 ((wrap64 ((rd t199 a1) * a2)) + (rd t199 (ji33))))] (by rfl) rfl rfl (by (try simp only [List.map_toArray, List.map_cons, List.map_nil]); first | done | (simp only [hji33]; rfl) | rfl | (simp only [List.length_drop, List.length_take]; rfl)) ?_
                     with_reducible refine (spec_l4With.calls _ _ t199 a1 (wrap64 ((wrap64 ((rd t199 a1) * a2)) + (rd t199 (ji33)))) t204 _ ?side1 ?side2 A72.out).mono ?_
                     (case side1 => exact (Cu ((Kd.R_reads' HO201.out).2.2)))
                     (case side2 => exact (Kd.R_reads' HO201.out).2.1)
                     rintro e w84 ⟨v205, rfl, ho0, hb⟩
                     have HS0_ := (hb.cell (World.block_lt_of_cell? _ _ (hHeld.1))).trans (hHeld.1)
                     have HS1_ := (hb.cell (World.block_lt_of_cell? _ _ (hHeld.2))).trans (hHeld.2)
                     refine ⟨_, rfl, ?_⟩
                     have HO206 := Aside0.mk (Kd.R_lower (Kd.R_new' (Kd.R_new' (Kd.R_new' ho0 (Kd.R_lt (Ru HO_199000.out))) (Kd.R_lt (Ru HO_199001.out))) (Kd.R_lt (Ru HO201.out))) (below_size (HBu HB.out)))
                     replace HO_199000 := Aside0.mk (Kd.R_elder' (Ru HO_199000.out) (Kd.R_base ho0) hb)
                     replace HO_199001 := Aside0.mk (Kd.R_elder' (Ru HO_199001.out) (Kd.R_base ho0) hb)
                     replace HO201 := Aside0.mk (Kd.R_elder' (Ru HO201.out) (Kd.R_base ho0) hb)
                     replace BK180 := Aside0.mk (Bb BK180.out hb)
                     replace BK181 := Aside0.mk (Bb BK181.out hb)
                     replace BK198 := Aside0.mk (Bb BK198.out hb)
                     replace HB := Aside0.mk (below_step (HBu HB.out) hb)
                     (try clear hb)
                     (try clear hb2)
                     (try clear hk)
                     (try clear hi)
                     (try clear ho0)
                     obtain ⟨Ao85, co85, eo85⟩ := Kd.R_slice HO206.out
                     (first | subst eo85 | (injection eo85 with f1_ f2_ f3_; have f4_ := f1_.symm; have f5_ := f3_.symm; clear f1_ f2_ f3_; subst f4_; subst f5_))
                     have q86 : ((ji33) : Int) ≤ ((t204.length : Int) : Int) := of_decide_eq_true (by first | (with_reducible assumption) | assumption)
                     obtain ⟨i086, hi086, _, hsz86, _⟩ := info_parts info3
                     have hcut86 := cut_to (P := Try.prog) 22 3 .i64 Try.underlying22 hi086 Ao85 t204.length co85 (ji33) (of_decide_eq_true (by first | (with_reducible assumption) | assumption)) q86 (Kd.R_reads' HO206.out).2.1
                     have hr86 := Kd.R_take (m := ((ji33) : Int).toNat) HO206.out (by omega)
                     have hy86 : y207.length = ((ji33) : Int).toNat := (by rw [Ny207.out, List.length_take]; omega)
                     rw [← Ny207.out] at hr86
                     rw [← hy86] at hr86 hcut86
                     clear hy86 hi086 hsz86 HO206
                     have HO209 := Aside0.mk hr86
                     clear hr86
                     replace q86 := eq_true q86
                     refine hK.out _ _ ⟨HS0_, HS1_⟩ (fun hHeld => ?_)
                     clear hK K
                     refine norm_ (a' := ?_) ?_ ?_
                     rotate_left
                     ·show Act.put _ (some 102) _ = _
                      simp only [Act.put, List.setIfInBounds_toArray, List.set_cons_zero, List.set_cons_succ, i64_w, i32_w]
                      rfl
                     refine pure_ (i := 15) (N := some 104) (v := ?_) (a' := ?_) #[T4_,T4_,T4_,T4_,T4_,T4_,T4_,T4_,T4_,T4_,T4_,T4_,T4_,T4_,T4_,T4_,F4_] rfl rfl (any_of HT_.out (by kernel_rfl)) (fun _ _ _ h => h) (Or.inl ⟨by rfl, ?_⟩) ?_ ?_
                     rotate_left
                     ·intro w'
                      go_simp
                      with_reducible rfl
                     rotate_left
                     ·simp only [Act.put, List.setIfInBounds_toArray, List.set_cons_zero, List.set_cons_succ, i64_w, i32_w]
                      rfl
                     refine pure_ (i := 16) (N := some 15) (v := ?_) (a' := ?_) #[T4_,T4_,T4_,T4_,T4_,T4_,T4_,T4_,T4_,T4_,T4_,T4_,T4_,T4_,T4_,T4_,T4_] rfl rfl (any_of HT_.out (by kernel_rfl)) (fun _ _ _ h => h) (Or.inl ⟨by rfl, ?_⟩) ?_ ?_
                     rotate_left
                     ·intro w'
                      go_simp
                      with_reducible rfl
                     rotate_left
                     ·simp only [Act.put, List.setIfInBounds_toArray, List.set_cons_zero, List.set_cons_succ, i64_w, i32_w]
                      rfl
                     refine done_ (done_of HT_.out (by kernel_rfl)) ?_
                     try go_wp2
                     replace HO_199000 := Aside0.mk (Kd.R_drew HO_199000.out)
                     replace HO_199001 := Aside0.mk (Kd.R_drew HO_199001.out)
                     replace HO201 := Aside0.mk (Kd.R_drew HO201.out)
                     replace HO209 := Aside0.mk (Kd.R_drew HO209.out)
                     replace BK180 := Aside0.mk (blk_drew BK180.out)
                     replace BK181 := Aside0.mk (blk_drew BK181.out)
                     replace BK198 := Aside0.mk (blk_drew BK198.out)
                     replace HB := Aside0.mk (below_drew1 HB.out)
                     have p211 : 0 ≤ (x13_3 : Int) := of_decide_eq_true (by first | (with_reducible assumption) | assumption)
                     have q211 : x13_3 < (l0_1.length : Int) := of_decide_eq_true (by first | (with_reducible assumption) | assumption)
                     obtain ⟨ad211, e211, hx211_0⟩ := Kd.at_int HR0_1.out x13_3 p211 q211
                     have hw211_0 := hx211_0
                     cases e211
                     replace hx211_0 := (HB.out.cell (World.block_lt_of_cell? w _ hx211_0)).trans hx211_0
                     replace p211 := eq_true p211
                     replace q211 := eq_true q211
                     obtain ⟨Ao88, co88, eo88⟩ := Kd.R_slice HO_199000.out
                     (first | subst eo88 | (injection eo88 with f1_ f2_ f3_; have f4_ := f1_.symm; have f5_ := f3_.symm; clear f1_ f2_ f3_; subst f4_; subst f5_))
                     obtain ⟨Ao89, co89, eo89⟩ := Kd.R_slice HO_199001.out
                     (first | subst eo89 | (injection eo89 with f1_ f2_ f3_; have f4_ := f1_.symm; have f5_ := f3_.symm; clear f1_ f2_ f3_; subst f4_; subst f5_))
                     refine start_ (n := 12) (S := fun w' => w'.cell? ⟨gb198, 0, none⟩ = some (.slice Ao88 x199000_3.length co88) ∧ w'.cell? ⟨gb198, 1, none⟩ = some (.slice Ao89 x199001_3.length co89) ∧ w'.cell? ⟨gb180, 0, none⟩ = some (.slice (some ad183) l0_0.length c0_0) ∧ w'.cell? ⟨gb180, 1, none⟩ = some (.slice (some ad211) l0_1.length c0_1) ∧ w'.cell? (ad211.add (x13_3).toNat) = some (.int .i64 (rd l0_1 x13_3))) (ds := []) #[F4_,F4_,F4_,F4_,F4_,F4_,F4_,F4_,F4_,F4_,F4_,F4_] (by kernel_rfl) rfl rfl ⟨(blk_cell BK198.out 0).trans rfl, (blk_cell BK198.out 1).trans rfl, (blk_cell BK180.out 0).trans rfl, (blk_cell BK180.out 1).trans rfl, ((HB.out.cell (World.block_lt_of_cell? w _ hw211_0)).trans hw211_0)⟩ (fun hHeld => ?_); refine with_tabW spec_Fold.tab16 spec_Fold.bits16 (fun HT_ HW_ => ?_)
                     generalize w84.drew = w87 at HO_199000 HO_199001 HO201 HO209 BK180 BK181 BK198 HB hx211_0 hHeld ⊢
                     refine pure_ (i := 1) (N := some 106) (v := ?_) (a' := ?_) #[F4_,T4_,F4_,F4_,F4_,F4_,F4_,F4_,F4_,F4_,F4_,F4_] rfl rfl (any_of HT_.out (by kernel_rfl)) (fun _ _ _ h => h) (Or.inl ⟨by rfl, ?_⟩) ?_ ?_
                     rotate_left
                     ·intro w'
                      go_simp
                      with_reducible rfl
                     rotate_left
                     ·simp only [Act.put, List.setIfInBounds_toArray, List.set_cons_zero, List.set_cons_succ, i64_w, i32_w]
                      rfl
                     refine pure_ (i := 3) (N := some 108) (v := ?_) (a' := ?_) #[F4_,T4_,F4_,T4_,F4_,F4_,F4_,F4_,F4_,F4_,F4_,F4_] rfl rfl (any_of HT_.out (by kernel_rfl)) (fun _ _ _ h => h) (Or.inl ⟨by rfl, ?_⟩) ?_ ?_
                     rotate_left
                     ·intro w'
                      go_simp
                      with_reducible rfl
                     rotate_left
                     ·simp only [Act.put, List.setIfInBounds_toArray, List.set_cons_zero, List.set_cons_succ, i64_w, i32_w]
                      rfl
                     refine pure_ (i := 5) (N := some 110) (v := ?_) (a' := ?_) #[F4_,T4_,F4_,T4_,F4_,T4_,F4_,F4_,F4_,F4_,F4_,F4_] rfl rfl (any_of HT_.out (by kernel_rfl)) (fun _ _ _ h => h) (Or.inl ⟨by rfl, ?_⟩) ?_ ?_
                     rotate_left
                     ·intro w'
                      go_simp
                      with_reducible rfl
                     rotate_left
                     ·simp only [Act.put, List.setIfInBounds_toArray, List.set_cons_zero, List.set_cons_succ, i64_w, i32_w]
                      rfl
                     refine pure_ (i := 7) (N := some 112) (v := ?_) (a' := ?_) #[F4_,T4_,F4_,T4_,F4_,T4_,F4_,T4_,F4_,F4_,F4_,F4_] rfl rfl (any_of HT_.out (by kernel_rfl)) (fun _ _ _ h => h) (Or.inl ⟨by rfl, ?_⟩) ?_ ?_
                     rotate_left
                     ·intro w'
                      go_simp
                      with_reducible rfl
                     rotate_left
                     ·simp only [Act.put, List.setIfInBounds_toArray, List.set_cons_zero, List.set_cons_succ, i64_w, i32_w]
                      rfl
                     refine take_ (i := 0) (N := some 105) (v := ?_) (a' := ?_) #[T4_,T4_,F4_,T4_,F4_,T4_,F4_,T4_,F4_,F4_,F4_,F4_] rfl rfl (take_ofW HT_.out HW_.out (by kernel_rfl)) (fun _ _ _ h => h) (Or.inl ⟨by rfl, ?_⟩) hHeld ?_ ?_
                     rotate_left
                     ·rintro w' ⟨s0, s1, s2, s3, s4⟩
                      go_simp
                      with_reducible rfl
                     rotate_left
                     ·simp only [Act.put, List.setIfInBounds_toArray, List.set_cons_zero, List.set_cons_succ, i64_w, i32_w]
                      rfl
                     refine take_ (i := 2) (N := some 107) (v := ?_) (a' := ?_) #[T4_,T4_,T4_,T4_,F4_,T4_,F4_,T4_,F4_,F4_,F4_,F4_] rfl rfl (take_ofW HT_.out HW_.out (by kernel_rfl)) (fun _ _ _ h => h) (Or.inl ⟨by rfl, ?_⟩) hHeld ?_ ?_
                     rotate_left
                     ·rintro w' ⟨s0, s1, s2, s3, s4⟩
                      go_simp
                      with_reducible rfl
                     rotate_left
                     ·simp only [Act.put, List.setIfInBounds_toArray, List.set_cons_zero, List.set_cons_succ, i64_w, i32_w]
                      rfl
                     refine take_ (i := 6) (N := some 111) (v := ?_) (a' := ?_) #[T4_,T4_,T4_,T4_,F4_,T4_,T4_,T4_,F4_,F4_,F4_,F4_] rfl rfl (take_ofW HT_.out HW_.out (by kernel_rfl)) (fun _ _ _ h => h) (Or.inl ⟨by rfl, ?_⟩) hHeld ?_ ?_
                     rotate_left
                     ·rintro w' ⟨s0, s1, s2, s3, s4⟩
                      go_simp
                      with_reducible rfl
                     rotate_left
                     ·simp only [Act.put, List.setIfInBounds_toArray, List.set_cons_zero, List.set_cons_succ, i64_w, i32_w]
                      rfl
                     refine pure_ (i := 8) (N := some 113) (v := ?_) (a' := ?_) #[T4_,T4_,T4_,T4_,F4_,T4_,T4_,T4_,T4_,F4_,F4_,F4_] rfl rfl (any_of HT_.out (by kernel_rfl)) (fun _ _ _ h => h) (Or.inl ⟨by rfl, ?_⟩) ?_ ?_
                     rotate_left
                     ·intro w'
                      go_simp
                      with_reducible rfl
                     rotate_left
                     ·simp only [Act.put, List.setIfInBounds_toArray, List.set_cons_zero, List.set_cons_succ, i64_w, i32_w]
                      rfl
                     refine take_ (i := 9) (N := some 114) (v := ?_) (a' := ?_) #[T4_,T4_,T4_,T4_,F4_,T4_,T4_,T4_,T4_,T4_,F4_,F4_] rfl rfl (take_ofW HT_.out HW_.out (by kernel_rfl)) (fun _ _ _ h => h) (Or.inl ⟨by rfl, ?_⟩) hHeld ?_ ?_
                     rotate_left
                     ·rintro w' ⟨s0, s1, s2, s3, s4⟩
                      go_simp
                      with_reducible rfl
                     rotate_left
                     ·simp only [Act.put, List.setIfInBounds_toArray, List.set_cons_zero, List.set_cons_succ, i64_w, i32_w]
                      rfl
                     refine one_ (i := 4) (N := some 109) #[T4_,T4_,T4_,T4_,T4_,T4_,T4_,T4_,T4_,T4_,F4_,F4_] rfl rfl (one_of HT_.out (by kernel_rfl)) (by decide) (fun K hK => ?_)
                     refine goes_ Try.func62 (by kernel_rfl) rfl #[.agg #[.slice Ao88 x199000_3.length co88, .slice Ao89 x199001_3.length co89], .slice Ao85 y207.length co85] (by rfl) rfl rfl (by (try simp only [List.map_toArray, List.map_cons, List.map_nil]); first | done | rfl | (simp only [List.length_drop, List.length_take]; rfl)) ?_
                     with_reducible refine (spec_l4Get.calls k3 _ _ x199000_3 _ _ x199001_3 _ _ y207 t210 _ ?side1 ?side2 ?side3 ?side4 ?side5 ?side6 A74.out).mono ?_
                     (case side1 => exact (Cu ((Kd.R_reads' HO_199000.out).2.2)))
                     (case side2 => exact (Kd.R_reads' HO_199000.out).2.1)
                     (case side3 => exact (Cu ((Kd.R_reads' HO_199001.out).2.2)))
                     (case side4 => exact (Kd.R_reads' HO_199001.out).2.1)
                     (case side5 => exact (Cu ((Kd.R_reads' HO209.out).2.2)))
                     (case side6 => exact (Kd.R_reads' HO209.out).2.1)
                     rintro e w90 ⟨rfl, hb⟩
                     refine ⟨_, rfl, ?_⟩
                     replace HO_199000 := Aside0.mk (Rb HO_199000.out hb)
                     replace HO_199001 := Aside0.mk (Rb HO_199001.out hb)
                     replace HO201 := Aside0.mk (Rb HO201.out hb)
                     replace HO209 := Aside0.mk (Rb HO209.out hb)
                     replace BK180 := Aside0.mk (Bb BK180.out hb)
                     replace BK181 := Aside0.mk (Bb BK181.out hb)
                     replace BK198 := Aside0.mk (Bb BK198.out hb)
                     replace HB := Aside0.mk (below_step (HBu HB.out) hb)
                     (try clear hb)
                     (try clear hb2)
                     (try clear hk)
                     (try clear hi)
                     refine hK.out _ _ ⟨(blk_cell BK198.out 0).trans rfl, (blk_cell BK198.out 1).trans rfl, (blk_cell BK180.out 0).trans rfl, (blk_cell BK180.out 1).trans rfl, ((HB.out.cell (World.block_lt_of_cell? w _ hw211_0)).trans hw211_0)⟩ (fun hHeld => ?_)
                     clear hK K
                     refine norm_ (a' := ?_) ?_ ?_
                     rotate_left
                     ·show Act.put _ (some 109) _ = _
                      simp only [Act.put, List.setIfInBounds_toArray, List.set_cons_zero, List.set_cons_succ, i64_w, i32_w]
                      rfl
                     refine one_ (i := 10) (N := some 115) #[T4_,T4_,T4_,T4_,T4_,T4_,T4_,T4_,T4_,T4_,T4_,F4_] rfl rfl (one_of HT_.out (by kernel_rfl)) (by decide) (fun K hK => ?_)
                     refine goes_ Try.func38 (by kernel_rfl) rfl #[.int .i64 t210, .int .i64 (rd l0_1 x13_3)] (by rfl) rfl rfl (by (try simp only [List.map_toArray, List.map_cons, List.map_nil]); first | done | rfl | (simp only [List.length_drop, List.length_take]; rfl)) ?_
                     with_reducible refine (spec_Plus.calls t210 (rd l0_1 x13_3) t212 _ A76.out).mono ?_
                     rintro e w' ⟨rfl, ⟨nd, rfl⟩⟩
                     refine ⟨_, rfl, ?_⟩
                     refine hK.out _ _ ⟨(blk_cell BK198.out 0).trans rfl, (blk_cell BK198.out 1).trans rfl, (blk_cell BK180.out 0).trans rfl, (blk_cell BK180.out 1).trans rfl, ((HB.out.cell (World.block_lt_of_cell? w _ hw211_0)).trans hw211_0)⟩ (fun hHeld => ?_)
                     clear hK K
                     refine norm_ (a' := ?_) ?_ ?_
                     rotate_left
                     ·show Act.put _ (some 115) _ = _
                      simp only [Act.put, List.setIfInBounds_toArray, List.set_cons_zero, List.set_cons_succ, i64_w, i32_w]
                      rfl
                     refine one_ (i := 11) (N := some 116) #[T4_,T4_,T4_,T4_,T4_,T4_,T4_,T4_,T4_,T4_,T4_,T4_] rfl rfl (one_of HT_.out (by kernel_rfl)) (by decide) (fun K hK => ?_)
                     refine goes_ Try.func66 (by kernel_rfl) rfl #[.agg #[.slice Ao88 x199000_3.length co88, .slice Ao89 x199001_3.length co89], .slice Ao85 y207.length co85, .int .i64 t212] (by rfl) rfl rfl (by (try simp only [List.map_toArray, List.map_cons, List.map_nil]); first | done | rfl | (simp only [List.length_drop, List.length_take]; rfl)) ?_
                     with_reducible refine (spec_l4Set.calls k3 _ _ x199000_3 (fun k_ => some k_ = (.slice Ao89 x199001_3.length co89 : Value).ownBlock) (.slice Ao89 x199001_3.length co89) x199001_3 _ _ y207 t212 t213 w _ ?side1 ?side2 ?side3 ?side4 ?side5 ?side6 A77.out).mono ?_
                     (case side1 => exact HBu HB.out)
                     (case side2 => exact Kd.C_kept_own (HO_199000.out) (fun k_ hk_ hs_ => (hk_.1.1) hs_))
                     (case side3 => exact (Kd.R_reads' HO_199000.out).2.1)
                     (case side4 => exact Kd.R_tight rfl HO_199001.out)
                     (case side5 => exact Kd.C_kept_own (HO209.out) (fun k_ hk_ hs_ => (hk_.1.2) hs_))
                     (case side6 => exact (Kd.R_reads' HO209.out).2.1)
                     rintro e w91 ⟨rfl, hy0, hb, hkp⟩
                     refine ⟨_, rfl, ?_⟩
                     replace HO_199000 := Aside0.mk (Kd.R_mono (ok' := fun k_ => some k_ ≠ (.slice Ao89 x199001_3.length co89 : Value).ownBlock ∧ some k_ ≠ (.slice (some ad202) t199.length co83 : Value).ownBlock ∧ some k_ ≠ (.slice Ao85 y207.length co85 : Value).ownBlock) (Kd.R_keptB (HO_199000.out) hkp (fun k_ hk_ hs_ => (hk_.1.1) hs_)) (fun k_ hk_ => ⟨hk_.1.1.1, hk_.1.1.2, (fun e_ => hk_.1.2 (e_.trans (obl _ _ _ _ _)))⟩))
                     replace BK180 := Aside0.mk (blk_kept (by first | exact BK180.out | ((with_reducible repeat (first | refine blk_drewN ?_ _ | refine blk_drew ?_ | refine blk_alloc ?_ _)); exact BK180.out)) hkp (fun hs_ => (fun e_ => (Kd.R_ne HO_199001.out BK180.out (by decide)) e_) hs_))
                     replace BK181 := Aside0.mk (blk_kept (by first | exact BK181.out | ((with_reducible repeat (first | refine blk_drewN ?_ _ | refine blk_drew ?_ | refine blk_alloc ?_ _)); exact BK181.out)) hkp (fun hs_ => (fun e_ => (Kd.R_ne HO_199001.out BK181.out (by decide)) e_) hs_))
                     replace BK198 := Aside0.mk (blk_kept (by first | exact BK198.out | ((with_reducible repeat (first | refine blk_drewN ?_ _ | refine blk_drew ?_ | refine blk_alloc ?_ _)); exact BK198.out)) hkp (fun hs_ => (fun e_ => (Kd.R_ne HO_199001.out BK198.out (by decide)) e_) hs_))
                     replace HO_199001 := Aside0.mk (Kd.R_reok rfl hy0 (fun k_ e_ => HO_199001.out.1 k_ e_))
                     replace HO201 := Aside0.mk (Kd.R_mono (ok' := fun k_ => some k_ ≠ (.slice Ao88 x199000_3.length co88 : Value).ownBlock ∧ some k_ ≠ (.slice Ao89 x199001_3.length co89 : Value).ownBlock ∧ some k_ ≠ (.slice Ao85 y207.length co85 : Value).ownBlock) (Kd.R_keptB (HO201.out) hkp (fun k_ hk_ hs_ => (hk_.1.2) hs_)) (fun k_ hk_ => ⟨hk_.1.1.1.2, hk_.1.1.2, (fun e_ => hk_.1.2 (e_.trans (obl _ _ _ _ _)))⟩))
                     replace HO209 := Aside0.mk (Kd.R_mono (ok' := fun k_ => some k_ ≠ (.slice Ao88 x199000_3.length co88 : Value).ownBlock ∧ some k_ ≠ (.slice Ao89 x199001_3.length co89 : Value).ownBlock ∧ some k_ ≠ (.slice (some ad202) t199.length co83 : Value).ownBlock) (Kd.R_keptB (HO209.out) hkp (fun k_ hk_ hs_ => (hk_.1.2) hs_)) (fun k_ hk_ => ⟨hk_.1.1.1.2, hk_.1.1.2, hk_.1.2⟩))
                     replace HB := Aside0.mk (hb)
                     (try clear hb)
                     (try clear hkp)
                     (try clear hy0)
                     refine hK.out _ _ ⟨(blk_cell BK198.out 0).trans rfl, (blk_cell BK198.out 1).trans rfl, (blk_cell BK180.out 0).trans rfl, (blk_cell BK180.out 1).trans rfl, ((HB.out.cell (World.block_lt_of_cell? w _ hw211_0)).trans hw211_0)⟩ (fun hHeld => ?_)
                     clear hK K
                     refine norm_ (a' := ?_) ?_ ?_
                     rotate_left
                     ·show Act.put _ (some 116) _ = _
                      simp only [Act.put, List.setIfInBounds_toArray, List.set_cons_zero, List.set_cons_succ, i64_w, i32_w]
                      rfl
                     refine done_ (done_of HT_.out (by kernel_rfl)) ?_
                     try go_wp2
                     go_roundg k3
                     case measure => have := HJ4.out; have := HJ35.out; have := HK3.out; omega
                     case rel => exact ⟨(wrap64 (x13_3 + 1)), (x199000_3), (t213), (.slice Ao88 x199000_3.length co88), (.slice Ao89 x199001_3.length co89), (by first | rfl | (simp; done) | (simp [*]; done)), H', ⟨by have := HJ4.out; have := HJ35.out; have := HK3.out; omega⟩, ⟨by (with_reducible repeat (first | apply Kd.R_alloc | apply Kd.R_drewN | apply Kd.R_drew)); exact Kd.R_mono HO_199000.out (fun _ hk => hk.1)⟩, ⟨by (with_reducible repeat (first | apply Kd.R_alloc | apply Kd.R_drewN | apply Kd.R_drew)); exact Kd.R_mono HO_199001.out (fun _ hk => hk.1.1)⟩, ⟨by (with_reducible repeat (first | refine blk_drewN ?_ _ | refine blk_drew ?_ | refine blk_alloc ?_ _)); exact BK180.out⟩, ⟨by (with_reducible repeat (first | refine blk_drewN ?_ _ | refine blk_drew ?_ | refine blk_alloc ?_ _)); exact BK181.out⟩, ⟨by (with_reducible repeat (first | refine blk_drewN ?_ _ | refine blk_drew ?_ | refine blk_alloc ?_ _)); exact BK198.out⟩, ⟨HBu HB.out⟩⟩
                    ·rw [if_neg c75] at H
                     exact absurd H (by simp)
                   ·rw [if_neg c73] at H
                    exact absurd H (by simp)
                  ·rw [if_neg c71] at H
                   exact absurd H (by simp)
                 ·rw [if_neg c70] at H
                  exact absurd H (by simp)
                ·rw [if_neg c69] at H
                 exact absurd H (by simp)
               ·rw [if_neg c68] at H
                exact absurd H (by simp)
              ·rw [if_neg c66] at H
               have c66b0 : decide (x13_3 < (l0_1.length : Int)) = false := decide_eq_false c66
               clear c66
               simp only [Option.some.injEq, Prod.mk.injEq] at H
               obtain ⟨rfl, rfl⟩ := H
               have hnb92 := NB180_181.out
               have hnc92 := NB181_180.out
               have hnb93 := NB180_198.out
               have hnc93 := NB198_180.out
               have hcz94_0 : wr.cell? ⟨gb180, 0, none⟩ = some (.slice (some ad183) l0_0.length c0_0) := (blk_cell BK180.out 0).trans rfl
               have hcz94_1 : wr.cell? ⟨gb180, 1, none⟩ = some (.slice A0_1 l0_1.length c0_1) := (blk_cell BK180.out 1).trans rfl
               have hfz94_0 := blk_frozen BK180.out 0
               have hfz94_1 := blk_frozen BK180.out 1
               have hnb95 := NB198_181.out
               have hnc95 := NB181_198.out
               have hcz96_0 : wr.cell? ⟨gb198, 0, none⟩ = some (u199000) := (blk_cell BK198.out 0).trans rfl
               have hcz96_1 : wr.cell? ⟨gb198, 1, none⟩ = some (u199001) := (blk_cell BK198.out 1).trans rfl
               have hfz96_0 := blk_frozen BK198.out 0
               have hfz96_1 := blk_frozen BK198.out 1
               obtain ⟨Ao97, co97, eo97⟩ := Kd.R_slice HO_199000.out
               subst eo97
               have hcz98_0 : wr.cell? ⟨gb181, 0, none⟩ = some (.slice none 0 0) := (blk_cell BK181.out 0).trans rfl
               have hcz98_1 : wr.cell? ⟨gb181, 1, none⟩ = some (.slice none 0 0) := (blk_cell BK181.out 1).trans rfl
               have hfz98_0 := blk_frozen BK181.out 0
               have hfz98_1 := blk_frozen BK181.out 1
               obtain ⟨Ao99, co99, eo99⟩ := Kd.R_slice HO_199001.out
               subst eo99
               go_wp2
               refine bodyPost_ret (results_cell_row rfl _ _ gb181 26 #[.slice Ao97 x199000_3.length co97, .slice Ao99 x199001_3.length co99] (0, 0) _ rfl (by (with_reducible repeat (first | refine blk_drewN ?_ _ | refine blk_drew ?_ | refine blk_alloc ?_ _)); refine blk_put (cs := #[.slice Ao97 x199000_3.length co97, .slice none 0 0]) ?_ 1 _ rfl; (with_reducible repeat (first | refine blk_drewN ?_ _ | refine blk_drew ?_ | refine blk_alloc ?_ _)); refine blk_put (cs := #[.slice none 0 0, .slice none 0 0]) ?_ 0 _ rfl; (with_reducible repeat (first | refine blk_drewN ?_ _ | refine blk_drew ?_ | refine blk_alloc ?_ _)); exact BK181.out) Try.underlying26 rfl (by kernel_rfl)) rfl ?_
               exact ⟨_, _, by first | rfl | (simp [errW_none, errW_some] <;> rfl) | (simp only [← hji33]; first | rfl | (simp [errW_none, errW_some] <;> rfl)) | (simp [*, errW_none, errW_some] <;> rfl), by (with_reducible repeat (first | apply Kd.R_alloc | apply Kd.R_drewN | apply Kd.R_drew)); exact Kd.R_mono (Kd.R_far (p := ⟨gb181, 1, none⟩) (Kd.R_far (p := ⟨gb181, 0, none⟩) (Kd.R_types HO_199000.out BK181.out (by decide)) (fun _ hk => hk.2) (.slice Ao97 x199000_3.length co97)) (fun _ hk => hk.2) (.slice Ao99 x199001_3.length co99)) (fun _ hk => hk.1), by (with_reducible repeat (first | apply Kd.R_alloc | apply Kd.R_drewN | apply Kd.R_drew)); exact Kd.R_mono (Kd.R_far (p := ⟨gb181, 1, none⟩) (Kd.R_far (p := ⟨gb181, 0, none⟩) (Kd.R_types HO_199001.out BK181.out (by decide)) (fun _ hk => hk.2) (.slice Ao97 x199000_3.length co97)) (fun _ hk => hk.2) (.slice Ao99 x199001_3.length co99)) (fun _ hk => hk.1), HBu HB.out⟩
           ·replace c52 := Bool.eq_false_iff.mpr c52
            subst c52
            have H1 : (some (([] : List Int), ([] : List Int))) = some (r1, r2) := by rw [if_neg (show ¬ (false = true) by decide)] at H; exact H
            clear H
            have H := H1
            clear H1
            simp only [Option.some.injEq, Prod.mk.injEq] at H
            obtain ⟨rfl, rfl⟩ := H
            have hnb100 := NB180_181.out
            have hnc100 := NB181_180.out
            have hcz101_0 : wc.cell? ⟨gb180, 0, none⟩ = some (.slice (some ad183) l0_0.length c0_0) := (blk_cell BK180.out 0).trans rfl
            have hcz101_1 : wc.cell? ⟨gb180, 1, none⟩ = some (.slice A0_1 l0_1.length c0_1) := (blk_cell BK180.out 1).trans rfl
            have hfz101_0 := blk_frozen BK180.out 0
            have hfz101_1 := blk_frozen BK180.out 1
            go_wp2_with (first | ((with_reducible refine gate_callee (f := 60) rfl ?_); refine goesL_ (some 69) rfl rfl Try.func60 (by kernel_rfl) rfl #[.slice (some ad183) l0_0.length c0_0, .int .i64 a1, .int .i64 a3] rfl (by (try simp only [List.map_toArray, List.map_cons, List.map_nil]); first | done | rfl | (simp only [List.length_drop, List.length_take]; rfl)) ?_; (with_reducible refine (spec_l4With.calls _ _ l0_0 a1 a3 t185 _ ?side1 ?side2 A48.out).mono ?_); (case side1 => exact (Cu ((Kd.C_below HR0_0.out HB.out)))); (case side2 => exact HC0_0.out); rintro e w102 ⟨v186, rfl, ho0, hb⟩; refine ⟨_, rfl, ?_⟩; have HO187 := Aside0.mk (Kd.R_lower ho0 (below_size (HBu HB.out))); replace BK180 := Aside0.mk (Bb BK180.out hb); replace BK181 := Aside0.mk (Bb BK181.out hb); replace HB := Aside0.mk (below_step (HBu HB.out) hb); (try clear hb); (try clear hb2); (try clear hk); (try clear hi); (try clear ho0); obtain ⟨Ao103, co103, eo103⟩ := Kd.R_slice HO187.out; subst eo103; have q104 : ((ji33) : Int) ≤ ((t185.length : Int) : Int) := of_decide_eq_true (by first | (with_reducible assumption) | assumption); obtain ⟨i0104, hi0104, _, hsz104, _⟩ := info_parts info3; have hcut104 := cut_to (P := Try.prog) 22 3 .i64 Try.underlying22 hi0104 Ao103 t185.length co103 (ji33) (of_decide_eq_true (by first | (with_reducible assumption) | assumption)) q104 (Kd.R_reads' HO187.out).2.1; have hr104 := Kd.R_take (m := ((ji33) : Int).toNat) HO187.out (by omega); have hy104 : y188.length = ((ji33) : Int).toNat := (by rw [Ny188.out, List.length_take]; omega); rw [← Ny188.out] at hr104; rw [← hy104] at hr104 hcut104; clear hy104 hi0104 hsz104 HO187; have HO190 := Aside0.mk hr104; clear hr104; replace q104 := eq_true q104) | ((with_reducible refine gate_callee (f := 61) rfl ?_); refine goesL_ (some 73) rfl rfl Try.func61 (by kernel_rfl) rfl #[.slice Ao103 y188.length co103] rfl (by (try simp only [List.map_toArray, List.map_cons, List.map_nil]); first | done | rfl | (simp only [List.length_drop, List.length_take]; rfl)) ?_; (with_reducible refine (spec_DimsOk.calls kj35 _ _ y188 false _ ?side1 ?side2 A51.out).mono ?_); (case side1 => exact (Cu ((Kd.R_reads' HO190.out).2.2))); (case side2 => exact (Kd.R_reads' HO190.out).2.1); rintro e w' ⟨rfl, ⟨nd, rfl⟩⟩; refine ⟨_, rfl, ?_⟩; (try (rw [drewN_self w102]; generalize hq_ : World.drewN w102 _ = w102; have n0_ : Aside0 (Kd.R (Kd.int .i64) 3 w102 w.heap.size (fun _ => True) (.slice Ao103 y188.length co103) y188) := ⟨by rw [← hq_]; exact (Ru HO190.out)⟩; have n1_ : Aside0 (w102.heap[gb180]? = some (.cells #[.slice (some ad183) l0_0.length c0_0, .slice A0_1 l0_1.length c0_1] 26 (0, 0))) := ⟨by rw [← hq_]; exact (Bu BK180.out)⟩; have n2_ : Aside0 (w102.heap[gb181]? = some (.cells #[.slice none 0 0, .slice none 0 0] 26 (0, 0))) := ⟨by rw [← hq_]; exact (Bu BK181.out)⟩; have n3_ : Aside0 (Below w.heap.size w w102) := ⟨by rw [← hq_]; exact (HBu HB.out)⟩; clear HO190 BK180 BK181 HB hq_; have HO190 := n0_; have BK180 := n1_; have BK181 := n2_; have HB := n3_; clear n0_ n1_ n2_ n3_)); have hcz105_0 : w102.cell? ⟨gb181, 0, none⟩ = some (.slice none 0 0) := (blk_cell BK181.out 0).trans rfl; have hcz105_1 : w102.cell? ⟨gb181, 1, none⟩ = some (.slice none 0 0) := (blk_cell BK181.out 1).trans rfl; have hfz105_0 := blk_frozen BK181.out 0; have hfz105_1 := blk_frozen BK181.out 1))
            refine bodyPost_ret (results_cell_row rfl _ _ gb181 26 #[.slice none 0 0, .slice none 0 0] (0, 0) _ rfl (by (with_reducible repeat (first | refine blk_drewN ?_ _ | refine blk_drew ?_ | refine blk_alloc ?_ _)); refine blk_put (cs := #[.slice none 0 0, .slice none 0 0]) ?_ 1 _ rfl; (with_reducible repeat (first | refine blk_drewN ?_ _ | refine blk_drew ?_ | refine blk_alloc ?_ _)); refine blk_put (cs := #[.slice none 0 0, .slice none 0 0]) ?_ 0 _ rfl; (with_reducible repeat (first | refine blk_drewN ?_ _ | refine blk_drew ?_ | refine blk_alloc ?_ _)); exact BK181.out) Try.underlying26 rfl (by kernel_rfl)) rfl ?_
            exact ⟨_, _, by first | rfl | (simp [errW_none, errW_some] <;> rfl) | (simp only [← hji33]; first | rfl | (simp [errW_none, errW_some] <;> rfl)) | (simp [*, errW_none, errW_some] <;> rfl), by first | exact Kd.R_nil _ _ _ _ _ | exact Kd.N_nil _ _ _ _ _ | exact Kd.V_nil _ _ _ _ _ | exact Kd.Q_nil _ _ _ _ _ | exact Kd.S_nil _ _ _ _ _, by first | exact Kd.R_nil _ _ _ _ _ | exact Kd.N_nil _ _ _ _ _ | exact Kd.V_nil _ _ _ _ _ | exact Kd.Q_nil _ _ _ _ _ | exact Kd.S_nil _ _ _ _ _, HBu HB.out⟩
          ·rw [if_neg c50] at H
           exact absurd H (by simp)
         ·rw [if_neg c49] at H
          exact absurd H (by simp)
     ·rw [if_neg c35] at H
      exact absurd H (by simp)
    ·rw [if_neg c34] at H
     exact absurd H (by simp)

end Go.Proofs.Ytcpemdedmepfeab.PFnExactFold
