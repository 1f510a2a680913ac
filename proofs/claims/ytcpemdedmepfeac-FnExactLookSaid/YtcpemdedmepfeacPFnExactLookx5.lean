-- Printed out of the translation, hand-written contracts beside it; checked by the kernel alone.
import Derived.Test.YtcpemdedmepfeacPFnExactLookx0
import Derived.Test.YtcpemdedmepfeacPFnExactLookx1
import Derived.Test.YtcpemdedmepfeacPFnExactLookx2
import Derived.Test.YtcpemdedmepfeacPFnExactLookx3
import Derived.Test.YtcpemdedmepfeacPFnExactLookx4
namespace Go.Proofs.Ytcpemdedmepfeac.PFnExactLook
open Go.RowKit Go.Proofs.YtcpemdedmepfeacW.PrintWords Go.Proofs.YtcpemdedmepfeacW.PrintLast Go.Proofs.YtcpemdedmepfeacW.PrintMore
attribute [local go_sem] max2_int min2_int max_two min_two max_three min_three max_four min_four   -- for this text's walks alone
set_option linter.unusedVariables false
set_option linter.unusedSimpArgs false

/-! ### spec_Look: function 17 -/
mutual
def spec_Look.j0 : Nat → Bool → List Int → List Int → List Int → List Int → Int → Int → Option (List Int × List Int)
 | 0, _, _, _, _, _, _, _ => none
 | k + 1, x23, x183000, x183001, x184000, x184001, x184002, x184003 => if x23 = true then (some (([] : List Int), ([] : List Int))) else ((spec_l3Ints.f x184000).bind fun t187 => ((spec_l3All.f k x184000 x184001 x184002 x184003).bind fun t191 => (spec_Look.l0 k t191 0 x183000 x183001 t187 ([] : List Int))))
def spec_Look.l0 : Nat → List Int → Int → List Int → List Int → List Int → List Int → Option (List Int × List Int)
 | 0, _, _, _, _, _, _ => none
 | k + 1, x6, x7, x183000, x183001, x191000, x191001 => if x7 < (x6.length : Int) then (if 0 ≤ x7 then (if 0 ≤ (rd x6 x7) then (if (rd x6 x7) < (x183001.length : Int) then (if x191001.length < 17592186044416 then (spec_Look.l0 k x6 (wrap64 (x7 + 1)) x183000 x183001 x191000 (x191001 ++ [rd x183001 (rd x6 x7)])) else (none)) else (none)) else (none)) else (none)) else (some (x191000, x191001))
end
def spec_Look.f (k : Nat) (l0_0 : List Int) (l0_1 : List Int) (l1_0 : List Int) (l1_1 : List Int) (a1_2 : Int) (a1_3 : Int) : Option (List Int × List Int) := (spec_TensorOk.f k l0_0 l0_1).bind fun t185 => (if t185 = true then ((spec_ViewOk.f k l1_0 l1_1 a1_2 a1_3).bind fun t186 => (if t186 = true then (spec_Look.j0 k (a1_3 != (l0_1.length : Int)) l0_0 l0_1 l1_0 l1_1 a1_2 a1_3) else (spec_Look.j0 k true l0_0 l0_1 l1_0 l1_1 a1_2 a1_3))) else (spec_Look.j0 k true l0_0 l0_1 l1_0 l1_1 a1_2 a1_3))
theorem spec_Look.mono_l : ∀ k, (∀ y0 y1 y2 y3 y4 y5 y6, LeO (spec_Look.j0 k y0 y1 y2 y3 y4 y5 y6) (spec_Look.j0 (k + 1) y0 y1 y2 y3 y4 y5 y6)) ∧ (∀ y0 y1 y2 y3 y4 y5, LeO (spec_Look.l0 k y0 y1 y2 y3 y4 y5) (spec_Look.l0 (k + 1) y0 y1 y2 y3 y4 y5))
 | 0 => ⟨fun _ _ _ _ _ _ _ r h => by simp [spec_Look.j0] at h, fun _ _ _ _ _ _ r h => by simp [spec_Look.l0] at h⟩
 | k + 1 => by
  obtain ⟨ih0, ih1⟩ := spec_Look.mono_l k
  refine ⟨?_, ?_⟩
  ·intro y0 y1 y2 y3 y4 y5 y6
   unfold spec_Look.j0
   repeat' first
   | (with_reducible exact ih0 _ _ _ _ _ _ _)
   | (with_reducible exact ih1 _ _ _ _ _ _)
   | (with_reducible exact spec_TensorOk.mono _ _ _)
   | (with_reducible exact spec_ViewOk.mono _ _ _ _ _)
   | (with_reducible exact spec_l3All.mono _ _ _ _ _)
   | (with_reducible exact LeO.refl _)
   | (with_reducible exact LeO.none _)
   | (with_reducible refine LeO.ite ?_ ?_)
   | (with_reducible refine LeO.bind ?_ (fun _ => ?_))
   | exact ih0 _ _ _ _ _ _ _
   | exact ih1 _ _ _ _ _ _
   | exact spec_TensorOk.mono _ _ _
   | exact spec_ViewOk.mono _ _ _ _ _
   | exact spec_l3All.mono _ _ _ _ _
   | exact LeO.none _
   | refine LeO.ite ?_ ?_
   | refine LeO.bind ?_ (fun _ => ?_)
  ·intro y0 y1 y2 y3 y4 y5
   unfold spec_Look.l0
   repeat' first
   | (with_reducible exact ih0 _ _ _ _ _ _ _)
   | (with_reducible exact ih1 _ _ _ _ _ _)
   | (with_reducible exact spec_TensorOk.mono _ _ _)
   | (with_reducible exact spec_ViewOk.mono _ _ _ _ _)
   | (with_reducible exact spec_l3All.mono _ _ _ _ _)
   | (with_reducible exact LeO.refl _)
   | (with_reducible exact LeO.none _)
   | (with_reducible refine LeO.ite ?_ ?_)
   | (with_reducible refine LeO.bind ?_ (fun _ => ?_))
   | exact ih0 _ _ _ _ _ _ _
   | exact ih1 _ _ _ _ _ _
   | exact spec_TensorOk.mono _ _ _
   | exact spec_ViewOk.mono _ _ _ _ _
   | exact spec_l3All.mono _ _ _ _ _
   | exact LeO.none _
   | refine LeO.ite ?_ ?_
   | refine LeO.bind ?_ (fun _ => ?_)
theorem spec_Look.mono : ∀ a0 a1 a2 a3 a4 a5 k, LeO (spec_Look.f k a0 a1 a2 a3 a4 a5) (spec_Look.f (k + 1) a0 a1 a2 a3 a4 a5) := by
 intro a0 a1 a2 a3 a4 a5 k
 obtain ⟨ih0, ih1⟩ := spec_Look.mono_l k
 unfold spec_Look.f
 repeat' first
   | (with_reducible exact ih0 _ _ _ _ _ _ _)
   | (with_reducible exact ih1 _ _ _ _ _ _)
   | (with_reducible exact spec_TensorOk.mono _ _ _)
   | (with_reducible exact spec_ViewOk.mono _ _ _ _ _)
   | (with_reducible exact spec_l3All.mono _ _ _ _ _)
   | (with_reducible exact LeO.refl _)
   | (with_reducible exact LeO.none _)
   | (with_reducible refine LeO.ite ?_ ?_)
   | (with_reducible refine LeO.bind ?_ (fun _ => ?_))
   | exact ih0 _ _ _ _ _ _ _
   | exact ih1 _ _ _ _ _ _
   | exact spec_TensorOk.mono _ _ _
   | exact spec_ViewOk.mono _ _ _ _ _
   | exact spec_l3All.mono _ _ _ _ _
   | exact LeO.none _
   | refine LeO.ite ?_ ?_
   | refine LeO.bind ?_ (fun _ => ?_)
def spec_Look.T8 : Bool × List (List Nat × List Nat) := (true, [([], []), ([0], [0]), ([], []), ([2], [2]), ([], []), ([], []), ([4, 5], [4, 5]), ([6], [6]), ([3, 7], [3, 7]), ([8], [8]), ([9], [9]), ([1, 10], [1, 10]), ([0, 1, 2, 3, 4, 5, 6, 7, 8, 9, 10, 11], []), ([12, 11, 11, 0, 1, 2, 3, 4, 5, 6, 7, 8, 9, 10, 11], [11, 12])])
def spec_Look.B8 : List Nat := [0, 1, 0, 4, 0, 0, 48, 112, 252, 508, 1020, 2047, 4095, 8191]
theorem spec_Look.tab8 : rtab .any (opsOf Try.f17 8) = spec_Look.T8 := by kernel_rfl
theorem spec_Look.bits8 : waitsOk spec_Look.T8.2 spec_Look.B8 = true := by kernel_rfl
set_option maxHeartbeats 8000000 in
set_option maxRecDepth 100000 in
theorem spec_Look.calls (k : Nat) (A0_0 : Option Addr) (c0_0 : Nat) (l0_0 : List Int) (A0_1 : Option Addr) (c0_1 : Nat) (l0_1 : List Int) (A1_0 : Option Addr) (c1_0 : Nat) (l1_0 : List Int) (A1_1 : Option Addr) (c1_1 : Nat) (l1_1 : List Int) (a1_2 : Int) (a1_3 : Int) (r1 : List Int) (r2 : List Int) (w : World) (hr0_0 : Kd.C (Kd.int .i64) w A0_0 l0_0.length l0_0) (hc0_0 : l0_0.length ≤ c0_0) (hr0_1 : Kd.C (Kd.int .i64) w A0_1 l0_1.length l0_1) (hc0_1 : l0_1.length ≤ c0_1) (hr1_0 : Kd.C (Kd.int .i64) w A1_0 l1_0.length l1_0) (hc1_0 : l1_0.length ≤ c1_0) (hr1_1 : Kd.C (Kd.int .i64) w A1_1 l1_1.length l1_1) (hc1_1 : l1_1.length ≤ c1_1) (h : spec_Look.f k l0_0 l0_1 l1_0 l1_1 a1_2 a1_3 = some (r1, r2)) :
  Calls Try.prog 17 #[.agg #[.slice A0_0 l0_0.length c0_0, .slice A0_1 l0_1.length c0_1], .agg #[.slice A1_0 l1_0.length c1_0, .slice A1_1 l1_1.length c1_1, .int .i64 a1_2, .int .i64 a1_3]] w fun e w' => ∃ v0_ v1_ : Value, e = .returned (.agg #[v0_, v1_]) ∧ Kd.R (Kd.int .i64) 3 w' w.heap.size (fun k_ => some k_ ≠ (v1_ : Value).ownBlock) v0_ r1 ∧ Kd.R (Kd.int .i64) 3 w' w.heap.size (fun k_ => some k_ ≠ (v0_ : Value).ownBlock) v1_ r2 ∧ Below w.heap.size w w' := by
 have hu26 := Try.underlying26
 have hu36 := Try.underlying36
 have HR0_0 := Aside0.mk hr0_0
 have HC0_0 := Aside0.mk hc0_0
 clear hr0_0 hc0_0
 have HR0_1 := Aside0.mk hr0_1
 have HC0_1 := Aside0.mk hc0_1
 clear hr0_1 hc0_1
 have HR1_0 := Aside0.mk hr1_0
 have HC1_0 := Aside0.mk hc1_0
 clear hr1_0 hc1_0
 have HR1_1 := Aside0.mk hr1_1
 have HC1_1 := Aside0.mk hc1_1
 clear hr1_1 hc1_1
 have HB := Aside0.mk (Below.refl w.heap.size w)
 have H : ((spec_TensorOk.f k l0_0 l0_1).bind fun t185 => (if t185 = true then ((spec_ViewOk.f k l1_0 l1_1 a1_2 a1_3).bind fun t186 => (if t186 = true then (spec_Look.j0 k (a1_3 != (l0_1.length : Int)) l0_0 l0_1 l1_0 l1_1 a1_2 a1_3) else (spec_Look.j0 k true l0_0 l0_1 l1_0 l1_1 a1_2 a1_3))) else (spec_Look.j0 k true l0_0 l0_1 l1_0 l1_1 a1_2 a1_3))) = some (r1, r2) := h
 clear h
 have HC3 := Aside0.mk H
 clear H
 go_enter Try.func17, Try.ntmps17
 go_upto_region 1 with (first | ((with_reducible refine gate_dst (N := 2) rfl ?_); (try (refine gate_guard (by rfl) ?_; dsimp only)); refine box_event ?hg (N := 2) ?hd (cs := #[.slice A0_0 l0_0.length c0_0, .slice A0_1 l0_1.length c0_1]) (t := 26) ?hr ?_; (case hd => rfl); (case hg => rfl); (case hr => first | (go_simp; done) | (go_simp; rfl)); intro gb182 hg w4 hbox hb; have BK182 := Aside0.mk (hbox); have GW182 := Aside0.mk ((by rw [hg]; exact (below_size (Hu HB.out)) : w.heap.size ≤ gb182)); have GE182 := Aside0.mk ((by rw [hg]; exact (below_size (Hu HB.out)) : w.heap.size ≤ gb182)); replace HB := Aside0.mk (below_step (Hu HB.out) hb); clear hb hbox hg) | ((with_reducible refine gate_dst (N := 3) rfl ?_); (try (refine gate_guard (by rfl) ?_; dsimp only)); refine box_event ?hg (N := 3) ?hd (cs := #[.slice A1_0 l1_0.length c1_0, .slice A1_1 l1_1.length c1_1, .int .i64 a1_2, .int .i64 a1_3]) (t := 36) ?hr ?_; (case hd => rfl); (case hg => rfl); (case hr => first | (go_simp; done) | (go_simp; rfl)); intro gb183 hg w5 hbox hb; have BK183 := Aside0.mk (hbox); have GW183 := Aside0.mk ((by rw [hg]; exact (below_size (HBu HB.out)) : w.heap.size ≤ gb183)); have GE183 := Aside0.mk ((by rw [hg]; exact (below_size (HBu HB.out)) : w.heap.size ≤ gb183)); have NB182_183 := Aside0.mk ((by rw [hg]; exact Nat.ne_of_lt (blk_lt (g := gb182) (o := .cells #[.slice A0_0 l0_0.length c0_0, .slice A0_1 l0_1.length c0_1] 26 (0, 0)) (Bu BK182.out)) : gb182 ≠ gb183)); have NB183_182 := Aside0.mk ((by rw [hg]; exact Nat.ne_of_gt (blk_lt (g := gb182) (o := .cells #[.slice A0_0 l0_0.length c0_0, .slice A0_1 l0_1.length c0_1] 26 (0, 0)) (Bu BK182.out)) : gb183 ≠ gb182)); replace BK182 := Aside0.mk (Bb BK182.out hb); replace HB := Aside0.mk (below_step (HBu HB.out) hb); clear hb hbox hg) | ((with_reducible refine gate_dst (N := 4) rfl ?_); (try (refine gate_guard (by rfl) ?_; dsimp only)); refine box_event ?hg (N := 4) ?hd (cs := #[.slice none 0 0, .slice none 0 0]) (t := 26) ?hr ?_; (case hd => rfl); (case hg => rfl); (case hr => first | (go_simp; done) | (go_simp; rfl)); intro gb184 hg w6 hbox hb; have BK184 := Aside0.mk (hbox); have GW184 := Aside0.mk ((by rw [hg]; exact (below_size (HBu HB.out)) : w.heap.size ≤ gb184)); have GE184 := Aside0.mk ((by rw [hg]; exact (below_size (HBu HB.out)) : w.heap.size ≤ gb184)); have NB182_184 := Aside0.mk ((by rw [hg]; exact Nat.ne_of_lt (blk_lt (g := gb182) (o := .cells #[.slice A0_0 l0_0.length c0_0, .slice A0_1 l0_1.length c0_1] 26 (0, 0)) (Bu BK182.out)) : gb182 ≠ gb184)); have NB184_182 := Aside0.mk ((by rw [hg]; exact Nat.ne_of_gt (blk_lt (g := gb182) (o := .cells #[.slice A0_0 l0_0.length c0_0, .slice A0_1 l0_1.length c0_1] 26 (0, 0)) (Bu BK182.out)) : gb184 ≠ gb182)); have NB183_184 := Aside0.mk ((by rw [hg]; exact Nat.ne_of_lt (blk_lt (g := gb183) (o := .cells #[.slice A1_0 l1_0.length c1_0, .slice A1_1 l1_1.length c1_1, .int .i64 a1_2, .int .i64 a1_3] 36 (0, 0)) (Bu BK183.out)) : gb183 ≠ gb184)); have NB184_183 := Aside0.mk ((by rw [hg]; exact Nat.ne_of_gt (blk_lt (g := gb183) (o := .cells #[.slice A1_0 l1_0.length c1_0, .slice A1_1 l1_1.length c1_1, .int .i64 a1_2, .int .i64 a1_3] 36 (0, 0)) (Bu BK183.out)) : gb184 ≠ gb183)); replace BK182 := Aside0.mk (Bb BK182.out hb); replace BK183 := Aside0.mk (Bb BK183.out hb); replace HB := Aside0.mk (below_step (HBu HB.out) hb); clear hb hbox hg))
 (try simp only [Act.put, List.setIfInBounds_toArray, List.set_cons_zero, List.set_cons_succ])
 go_cut [23] (fun v23 wc => ∃ (kq : Nat) (x23_2 : Bool), v23 = .bool x23_2 ∧ Aside0 (spec_Look.j0 kq x23_2 l0_0 l0_1 l1_0 l1_1 a1_2 a1_3 = some (r1, r2)) ∧ Aside0 (kq ≤ k) ∧ Aside0 (wc.heap[gb182]? = some (.cells #[(.slice A0_0 l0_0.length c0_0), (.slice A0_1 l0_1.length c0_1)] 26 (0, 0))) ∧ Aside0 (wc.heap[gb183]? = some (.cells #[(.slice A1_0 l1_0.length c1_0), (.slice A1_1 l1_1.length c1_1), .int .i64 a1_2, .int .i64 a1_3] 36 (0, 0))) ∧ Aside0 (wc.heap[gb184]? = some (.cells #[(.slice none 0 0), (.slice none 0 0)] 26 (0, 0))) ∧ Aside0 (Below w.heap.size w wc))
 case first =>
  have H := HC3.out
  clear HC3
  replace H := Option.bind_eq_some_iff.mp H
  obtain ⟨t185, A70, H⟩ := H
  replace H : (if t185 = true then ((spec_ViewOk.f k l1_0 l1_1 a1_2 a1_3).bind fun t186 => (if t186 = true then (spec_Look.j0 k (a1_3 != (l0_1.length : Int)) l0_0 l0_1 l1_0 l1_1 a1_2 a1_3) else (spec_Look.j0 k true l0_0 l0_1 l1_0 l1_1 a1_2 a1_3))) else (spec_Look.j0 k true l0_0 l0_1 l1_0 l1_1 a1_2 a1_3)) = some (r1, r2) := H
  have A7 := Aside0.mk A70
  clear A70
  by_cases c8 : t185 = true
  ·subst c8
   have H1 : ((spec_ViewOk.f k l1_0 l1_1 a1_2 a1_3).bind fun t186 => (if t186 = true then (spec_Look.j0 k (a1_3 != (l0_1.length : Int)) l0_0 l0_1 l1_0 l1_1 a1_2 a1_3) else (spec_Look.j0 k true l0_0 l0_1 l1_0 l1_1 a1_2 a1_3))) = some (r1, r2) := by rw [if_pos rfl] at H; exact H
   clear H
   have H := H1
   clear H1
   replace H := Option.bind_eq_some_iff.mp H
   obtain ⟨t186, A90, H⟩ := H
   replace H : (if t186 = true then (spec_Look.j0 k (a1_3 != (l0_1.length : Int)) l0_0 l0_1 l1_0 l1_1 a1_2 a1_3) else (spec_Look.j0 k true l0_0 l0_1 l1_0 l1_1 a1_2 a1_3)) = some (r1, r2) := H
   have A9 := Aside0.mk A90
   clear A90
   by_cases c10 : t186 = true
   ·subst c10
    have H1 : (spec_Look.j0 k (a1_3 != (l0_1.length : Int)) l0_0 l0_1 l1_0 l1_1 a1_2 a1_3) = some (r1, r2) := by rw [if_pos rfl] at H; exact H
    clear H
    have H := H1
    clear H1
    have H' := Aside0.mk H
    clear H
    have hnb11 := NB182_183.out
    have hnc11 := NB183_182.out
    have hnb12 := NB182_184.out
    have hnc12 := NB184_182.out
    have hcz13_0 : w6.cell? ⟨gb182, 0, none⟩ = some (.slice A0_0 l0_0.length c0_0) := (blk_cell BK182.out 0).trans rfl
    have hcz13_1 : w6.cell? ⟨gb182, 1, none⟩ = some (.slice A0_1 l0_1.length c0_1) := (blk_cell BK182.out 1).trans rfl
    have hfz13_0 := blk_frozen BK182.out 0
    have hfz13_1 := blk_frozen BK182.out 1
    go_wp2_with (first | ((with_reducible refine gate_callee (f := 39) rfl ?_); refine goesL_ (some 9) rfl rfl Try.func39 (by kernel_rfl) rfl #[.agg #[.slice A0_0 l0_0.length c0_0, .slice A0_1 l0_1.length c0_1]] rfl (by (try simp only [List.map_toArray, List.map_cons, List.map_nil]); first | done | rfl | (simp only [List.length_drop, List.length_take]; rfl)) ?_; (with_reducible refine (spec_TensorOk.calls k _ _ l0_0 _ _ l0_1 true _ ?side1 ?side2 ?side3 ?side4 A7.out).mono ?_); (case side1 => exact (Cu ((Kd.C_below HR0_0.out HB.out)))); (case side2 => exact HC0_0.out); (case side3 => exact (Cu ((Kd.C_below HR0_1.out HB.out)))); (case side4 => exact HC0_1.out); rintro e w14 ⟨rfl, hb⟩; refine ⟨_, rfl, ?_⟩; replace BK182 := Aside0.mk (Bb BK182.out hb); replace BK183 := Aside0.mk (Bb BK183.out hb); replace BK184 := Aside0.mk (Bb BK184.out hb); replace HB := Aside0.mk (below_step (HBu HB.out) hb); (try clear hb); (try clear hb2); (try clear hk); (try clear hi); have hnb15 := NB183_184.out; have hnc15 := NB184_183.out; have hcz16_0 : w14.cell? ⟨gb183, 0, none⟩ = some (.slice A1_0 l1_0.length c1_0) := (blk_cell BK183.out 0).trans rfl; have hcz16_1 : w14.cell? ⟨gb183, 1, none⟩ = some (.slice A1_1 l1_1.length c1_1) := (blk_cell BK183.out 1).trans rfl; have hcz16_2 : w14.cell? ⟨gb183, 2, none⟩ = some (.int .i64 a1_2) := (blk_cell BK183.out 2).trans rfl; have hcz16_3 : w14.cell? ⟨gb183, 3, none⟩ = some (.int .i64 a1_3) := (blk_cell BK183.out 3).trans rfl; have hfz16_0 := blk_frozen BK183.out 0; have hfz16_1 := blk_frozen BK183.out 1; have hfz16_2 := blk_frozen BK183.out 2; have hfz16_3 := blk_frozen BK183.out 3) | (go_at_call 47; (with_reducible refine (spec_ViewOk.calls k _ _ l1_0 _ _ l1_1 a1_2 a1_3 true _ ?side1 ?side2 ?side3 ?side4 A9.out).mono ?_); (case side1 => exact (Cu ((Kd.C_below HR1_0.out HB.out)))); (case side2 => exact HC1_0.out); (case side3 => exact (Cu ((Kd.C_below HR1_1.out HB.out)))); (case side4 => exact HC1_1.out); rintro e w17 ⟨rfl, hb⟩; replace BK182 := Aside0.mk (Bb BK182.out hb); replace BK183 := Aside0.mk (Bb BK183.out hb); replace BK184 := Aside0.mk (Bb BK184.out hb); replace HB := Aside0.mk (below_step (HBu HB.out) hb); (try clear hb); (try clear hb2); (try clear hk); (try clear hi); have hcz18_0 : w17.cell? ⟨gb183, 0, none⟩ = some (.slice A1_0 l1_0.length c1_0) := (blk_cell BK183.out 0).trans rfl; have hcz18_1 : w17.cell? ⟨gb183, 1, none⟩ = some (.slice A1_1 l1_1.length c1_1) := (blk_cell BK183.out 1).trans rfl; have hcz18_2 : w17.cell? ⟨gb183, 2, none⟩ = some (.int .i64 a1_2) := (blk_cell BK183.out 2).trans rfl; have hcz18_3 : w17.cell? ⟨gb183, 3, none⟩ = some (.int .i64 a1_3) := (blk_cell BK183.out 3).trans rfl; have hfz18_0 := blk_frozen BK183.out 0; have hfz18_1 := blk_frozen BK183.out 1; have hfz18_2 := blk_frozen BK183.out 2; have hfz18_3 := blk_frozen BK183.out 3; have hcz19_0 : w17.cell? ⟨gb182, 0, none⟩ = some (.slice A0_0 l0_0.length c0_0) := (blk_cell BK182.out 0).trans rfl; have hcz19_1 : w17.cell? ⟨gb182, 1, none⟩ = some (.slice A0_1 l0_1.length c0_1) := (blk_cell BK182.out 1).trans rfl; have hfz19_0 := blk_frozen BK182.out 0; have hfz19_1 := blk_frozen BK182.out 1))
    go_meet
    case rel => exact ⟨_, ((a1_3 != (l0_1.length : Int))), (by first | rfl | (simp; done) | (simp [*]; done)), H', ⟨by first | omega | exact Nat.le_refl _⟩, ⟨by (with_reducible repeat (first | refine blk_drewN ?_ _ | refine blk_drew ?_ | refine blk_alloc ?_ _)); exact BK182.out⟩, ⟨by (with_reducible repeat (first | refine blk_drewN ?_ _ | refine blk_drew ?_ | refine blk_alloc ?_ _)); exact BK183.out⟩, ⟨by (with_reducible repeat (first | refine blk_drewN ?_ _ | refine blk_drew ?_ | refine blk_alloc ?_ _)); exact BK184.out⟩, ⟨HBu HB.out⟩⟩
   ·replace c10 := Bool.eq_false_iff.mpr c10
    subst c10
    have H1 : (spec_Look.j0 k true l0_0 l0_1 l1_0 l1_1 a1_2 a1_3) = some (r1, r2) := by rw [if_neg (show ¬ (false = true) by decide)] at H; exact H
    clear H
    have H := H1
    clear H1
    have H' := Aside0.mk H
    clear H
    have hnb20 := NB182_183.out
    have hnc20 := NB183_182.out
    have hnb21 := NB182_184.out
    have hnc21 := NB184_182.out
    have hcz22_0 : w6.cell? ⟨gb182, 0, none⟩ = some (.slice A0_0 l0_0.length c0_0) := (blk_cell BK182.out 0).trans rfl
    have hcz22_1 : w6.cell? ⟨gb182, 1, none⟩ = some (.slice A0_1 l0_1.length c0_1) := (blk_cell BK182.out 1).trans rfl
    have hfz22_0 := blk_frozen BK182.out 0
    have hfz22_1 := blk_frozen BK182.out 1
    go_wp2_with (first | ((with_reducible refine gate_callee (f := 39) rfl ?_); refine goesL_ (some 9) rfl rfl Try.func39 (by kernel_rfl) rfl #[.agg #[.slice A0_0 l0_0.length c0_0, .slice A0_1 l0_1.length c0_1]] rfl (by (try simp only [List.map_toArray, List.map_cons, List.map_nil]); first | done | rfl | (simp only [List.length_drop, List.length_take]; rfl)) ?_; (with_reducible refine (spec_TensorOk.calls k _ _ l0_0 _ _ l0_1 true _ ?side1 ?side2 ?side3 ?side4 A7.out).mono ?_); (case side1 => exact (Cu ((Kd.C_below HR0_0.out HB.out)))); (case side2 => exact HC0_0.out); (case side3 => exact (Cu ((Kd.C_below HR0_1.out HB.out)))); (case side4 => exact HC0_1.out); rintro e w23 ⟨rfl, hb⟩; refine ⟨_, rfl, ?_⟩; replace BK182 := Aside0.mk (Bb BK182.out hb); replace BK183 := Aside0.mk (Bb BK183.out hb); replace BK184 := Aside0.mk (Bb BK184.out hb); replace HB := Aside0.mk (below_step (HBu HB.out) hb); (try clear hb); (try clear hb2); (try clear hk); (try clear hi); have hnb24 := NB183_184.out; have hnc24 := NB184_183.out; have hcz25_0 : w23.cell? ⟨gb183, 0, none⟩ = some (.slice A1_0 l1_0.length c1_0) := (blk_cell BK183.out 0).trans rfl; have hcz25_1 : w23.cell? ⟨gb183, 1, none⟩ = some (.slice A1_1 l1_1.length c1_1) := (blk_cell BK183.out 1).trans rfl; have hcz25_2 : w23.cell? ⟨gb183, 2, none⟩ = some (.int .i64 a1_2) := (blk_cell BK183.out 2).trans rfl; have hcz25_3 : w23.cell? ⟨gb183, 3, none⟩ = some (.int .i64 a1_3) := (blk_cell BK183.out 3).trans rfl; have hfz25_0 := blk_frozen BK183.out 0; have hfz25_1 := blk_frozen BK183.out 1; have hfz25_2 := blk_frozen BK183.out 2; have hfz25_3 := blk_frozen BK183.out 3) | (go_at_call 47; (with_reducible refine (spec_ViewOk.calls k _ _ l1_0 _ _ l1_1 a1_2 a1_3 false _ ?side1 ?side2 ?side3 ?side4 A9.out).mono ?_); (case side1 => exact (Cu ((Kd.C_below HR1_0.out HB.out)))); (case side2 => exact HC1_0.out); (case side3 => exact (Cu ((Kd.C_below HR1_1.out HB.out)))); (case side4 => exact HC1_1.out); rintro e w26 ⟨rfl, hb⟩; replace BK182 := Aside0.mk (Bb BK182.out hb); replace BK183 := Aside0.mk (Bb BK183.out hb); replace BK184 := Aside0.mk (Bb BK184.out hb); replace HB := Aside0.mk (below_step (HBu HB.out) hb); (try clear hb); (try clear hb2); (try clear hk); (try clear hi)))
    go_meet
    case rel => exact ⟨_, (true), (by first | rfl | (simp; done) | (simp [*]; done)), H', ⟨by first | omega | exact Nat.le_refl _⟩, ⟨by (with_reducible repeat (first | refine blk_drewN ?_ _ | refine blk_drew ?_ | refine blk_alloc ?_ _)); exact BK182.out⟩, ⟨by (with_reducible repeat (first | refine blk_drewN ?_ _ | refine blk_drew ?_ | refine blk_alloc ?_ _)); exact BK183.out⟩, ⟨by (with_reducible repeat (first | refine blk_drewN ?_ _ | refine blk_drew ?_ | refine blk_alloc ?_ _)); exact BK184.out⟩, ⟨HBu HB.out⟩⟩
  ·replace c8 := Bool.eq_false_iff.mpr c8
   subst c8
   have H1 : (spec_Look.j0 k true l0_0 l0_1 l1_0 l1_1 a1_2 a1_3) = some (r1, r2) := by rw [if_neg (show ¬ (false = true) by decide)] at H; exact H
   clear H
   have H := H1
   clear H1
   have H' := Aside0.mk H
   clear H
   have hnb27 := NB182_183.out
   have hnc27 := NB183_182.out
   have hnb28 := NB182_184.out
   have hnc28 := NB184_182.out
   have hcz29_0 : w6.cell? ⟨gb182, 0, none⟩ = some (.slice A0_0 l0_0.length c0_0) := (blk_cell BK182.out 0).trans rfl
   have hcz29_1 : w6.cell? ⟨gb182, 1, none⟩ = some (.slice A0_1 l0_1.length c0_1) := (blk_cell BK182.out 1).trans rfl
   have hfz29_0 := blk_frozen BK182.out 0
   have hfz29_1 := blk_frozen BK182.out 1
   go_wp2_with (first | ((with_reducible refine gate_callee (f := 39) rfl ?_); refine goesL_ (some 9) rfl rfl Try.func39 (by kernel_rfl) rfl #[.agg #[.slice A0_0 l0_0.length c0_0, .slice A0_1 l0_1.length c0_1]] rfl (by (try simp only [List.map_toArray, List.map_cons, List.map_nil]); first | done | rfl | (simp only [List.length_drop, List.length_take]; rfl)) ?_; (with_reducible refine (spec_TensorOk.calls k _ _ l0_0 _ _ l0_1 false _ ?side1 ?side2 ?side3 ?side4 A7.out).mono ?_); (case side1 => exact (Cu ((Kd.C_below HR0_0.out HB.out)))); (case side2 => exact HC0_0.out); (case side3 => exact (Cu ((Kd.C_below HR0_1.out HB.out)))); (case side4 => exact HC0_1.out); rintro e w30 ⟨rfl, hb⟩; refine ⟨_, rfl, ?_⟩; replace BK182 := Aside0.mk (Bb BK182.out hb); replace BK183 := Aside0.mk (Bb BK183.out hb); replace BK184 := Aside0.mk (Bb BK184.out hb); replace HB := Aside0.mk (below_step (HBu HB.out) hb); (try clear hb); (try clear hb2); (try clear hk); (try clear hi)))
   go_meet
   case rel => exact ⟨_, (true), (by first | rfl | (simp; done) | (simp [*]; done)), H', ⟨by first | omega | exact Nat.le_refl _⟩, ⟨by (with_reducible repeat (first | refine blk_drewN ?_ _ | refine blk_drew ?_ | refine blk_alloc ?_ _)); exact BK182.out⟩, ⟨by (with_reducible repeat (first | refine blk_drewN ?_ _ | refine blk_drew ?_ | refine blk_alloc ?_ _)); exact BK183.out⟩, ⟨by (with_reducible repeat (first | refine blk_drewN ?_ _ | refine blk_drew ?_ | refine blk_alloc ?_ _)); exact BK184.out⟩, ⟨HBu HB.out⟩⟩
 case rest =>
  clear HC3
  try clear c1
  try clear c2
  try clear p2
  try clear c3
  try clear c8
  try clear c10
  try clear c11
  try clear c12
  try clear c15
  try clear c17
  try clear c20
  try clear c21
  try clear c24
  try clear c27
  try clear c28
  try clear hcz13_0
  try clear hcz13_1
  try clear hcz16_0
  try clear hcz16_1
  try clear hcz16_2
  try clear hcz16_3
  try clear hcz18_0
  try clear hcz18_1
  try clear hcz18_2
  try clear hcz18_3
  try clear hcz19_0
  try clear hcz19_1
  try clear hcz22_0
  try clear hcz22_1
  try clear hcz25_0
  try clear hcz25_1
  try clear hcz25_2
  try clear hcz25_3
  try clear hcz29_0
  try clear hcz29_1
  try clear hfz13_0
  try clear hfz13_1
  try clear hfz16_0
  try clear hfz16_1
  try clear hfz16_2
  try clear hfz16_3
  try clear hfz18_0
  try clear hfz18_1
  try clear hfz18_2
  try clear hfz18_3
  try clear hfz19_0
  try clear hfz19_1
  try clear hfz22_0
  try clear hfz22_1
  try clear hfz25_0
  try clear hfz25_1
  try clear hfz25_2
  try clear hfz25_3
  try clear hfz29_0
  try clear hfz29_1
  obtain ⟨kq, x23_2, rfl, HA, HJ2, BK182, BK183, BK184, HB⟩ := hcut
  cases kq with
  | zero => exact absurd HA.out (by simp [spec_Look.j0])
  | succ kj2 =>
   have H := HA.out
   clear HA
   simp only [spec_Look.j0] at H
   by_cases c31 : x23_2 = true
   ·subst c31
    have H1 : (some (([] : List Int), ([] : List Int))) = some (r1, r2) := by rw [if_pos rfl] at H; exact H
    clear H
    have H := H1
    clear H1
    simp only [Option.some.injEq, Prod.mk.injEq] at H
    obtain ⟨rfl, rfl⟩ := H
    have hnb32 := NB184_182.out
    have hnc32 := NB182_184.out
    have hnb33 := NB184_183.out
    have hnc33 := NB183_184.out
    have hcz34_0 : wc.cell? ⟨gb184, 0, none⟩ = some (.slice none 0 0) := (blk_cell BK184.out 0).trans rfl
    have hcz34_1 : wc.cell? ⟨gb184, 1, none⟩ = some (.slice none 0 0) := (blk_cell BK184.out 1).trans rfl
    have hfz34_0 := blk_frozen BK184.out 0
    have hfz34_1 := blk_frozen BK184.out 1
    go_wp2
    refine bodyPost_ret (results_cell_row rfl _ _ gb184 26 #[.slice none 0 0, .slice none 0 0] (0, 0) _ rfl (by (with_reducible repeat (first | refine blk_drewN ?_ _ | refine blk_drew ?_ | refine blk_alloc ?_ _)); refine blk_put (cs := #[.slice none 0 0, .slice none 0 0]) ?_ 1 _ rfl; (with_reducible repeat (first | refine blk_drewN ?_ _ | refine blk_drew ?_ | refine blk_alloc ?_ _)); refine blk_put (cs := #[.slice none 0 0, .slice none 0 0]) ?_ 0 _ rfl; (with_reducible repeat (first | refine blk_drewN ?_ _ | refine blk_drew ?_ | refine blk_alloc ?_ _)); exact BK184.out) Try.underlying26 rfl (by kernel_rfl)) rfl ?_
    exact ⟨_, _, by first | rfl | (simp [errW_none, errW_some] <;> rfl) | (simp [*, errW_none, errW_some] <;> rfl), by first | exact Kd.R_nil _ _ _ _ _ | exact Kd.N_nil _ _ _ _ _ | exact Kd.V_nil _ _ _ _ _ | exact Kd.Q_nil _ _ _ _ _ | exact Kd.S_nil _ _ _ _ _, by first | exact Kd.R_nil _ _ _ _ _ | exact Kd.N_nil _ _ _ _ _ | exact Kd.V_nil _ _ _ _ _ | exact Kd.Q_nil _ _ _ _ _ | exact Kd.S_nil _ _ _ _ _, HBu HB.out⟩
   ·replace c31 := Bool.eq_false_iff.mpr c31
    subst c31
    have H1 : ((spec_l3Ints.f l1_0).bind fun t187 => ((spec_l3All.f kj2 l1_0 l1_1 a1_2 a1_3).bind fun t191 => (spec_Look.l0 kj2 t191 0 l0_0 l0_1 t187 ([] : List Int)))) = some (r1, r2) := by rw [if_neg (show ¬ (false = true) by decide)] at H; exact H
    clear H
    have H := H1
    clear H1
    replace H := Option.bind_eq_some_iff.mp H
    obtain ⟨t187, A350, H⟩ := H
    replace H : ((spec_l3All.f kj2 l1_0 l1_1 a1_2 a1_3).bind fun t191 => (spec_Look.l0 kj2 t191 0 l0_0 l0_1 t187 ([] : List Int))) = some (r1, r2) := H
    have A35 := Aside0.mk A350
    clear A350
    replace H := Option.bind_eq_some_iff.mp H
    obtain ⟨t191, A360, H⟩ := H
    replace H : (spec_Look.l0 kj2 t191 0 l0_0 l0_1 t187 ([] : List Int)) = some (r1, r2) := H
    have A36 := Aside0.mk A360
    clear A360
    have H' := Aside0.mk H
    clear H
    have hnb37 := NB183_182.out
    have hnc37 := NB182_183.out
    have hnb38 := NB183_184.out
    have hnc38 := NB184_183.out
    have hcz39_0 : wc.cell? ⟨gb183, 0, none⟩ = some (.slice A1_0 l1_0.length c1_0) := (blk_cell BK183.out 0).trans rfl
    have hcz39_1 : wc.cell? ⟨gb183, 1, none⟩ = some (.slice A1_1 l1_1.length c1_1) := (blk_cell BK183.out 1).trans rfl
    have hcz39_2 : wc.cell? ⟨gb183, 2, none⟩ = some (.int .i64 a1_2) := (blk_cell BK183.out 2).trans rfl
    have hcz39_3 : wc.cell? ⟨gb183, 3, none⟩ = some (.int .i64 a1_3) := (blk_cell BK183.out 3).trans rfl
    have hfz39_0 := blk_frozen BK183.out 0
    have hfz39_1 := blk_frozen BK183.out 1
    have hfz39_2 := blk_frozen BK183.out 2
    have hfz39_3 := blk_frozen BK183.out 3
    go_wp2_with (first | ((with_reducible refine gate_callee (f := 48) rfl ?_); refine goesL_ (some 27) rfl rfl Try.func48 (by kernel_rfl) rfl #[.slice A1_0 l1_0.length c1_0] rfl (by (try simp only [List.map_toArray, List.map_cons, List.map_nil]); first | done | rfl | (simp only [List.length_drop, List.length_take]; rfl)) ?_; (with_reducible refine (spec_l3Ints.calls _ _ l1_0 t187 _ ?side1 ?side2 A35.out).mono ?_); (case side1 => exact (Cu ((Kd.C_below HR1_0.out HB.out)))); (case side2 => exact HC1_0.out); rintro e w40 ⟨v188, rfl, ho0, hb⟩; refine ⟨_, rfl, ?_⟩; have HO189 := Aside0.mk (Kd.R_lower ho0 (below_size (HBu HB.out))); replace BK182 := Aside0.mk (Bb BK182.out hb); replace BK183 := Aside0.mk (Bb BK183.out hb); replace BK184 := Aside0.mk (Bb BK184.out hb); replace HB := Aside0.mk (below_step (HBu HB.out) hb); (try clear hb); (try clear hb2); (try clear hk); (try clear hi); (try clear ho0); obtain ⟨Ao41, co41, eo41⟩ := Kd.R_slice HO189.out; subst eo41) | ((with_reducible refine gate_dst (N := 5) rfl ?_); (try (refine gate_guard (by rfl) ?_; dsimp only)); refine box_event ?hg (N := 5) ?hd (cs := #[.slice none 0 0, .slice none 0 0]) (t := 26) ?hr ?_; (case hd => rfl); (case hg => rfl); (case hr => first | (go_simp; done) | (go_simp; rfl)); intro gb190 hg w42 hbox hb; have BK190 := Aside0.mk (hbox); have GW190 := Aside0.mk ((by rw [hg]; exact (below_size (HBu HB.out)) : w.heap.size ≤ gb190)); have GE190 := Aside0.mk ((by rw [hg]; exact (below_size (HBu HB.out)) : w.heap.size ≤ gb190)); have NB182_190 := Aside0.mk ((by rw [hg]; exact Nat.ne_of_lt (blk_lt (g := gb182) (o := .cells #[.slice A0_0 l0_0.length c0_0, .slice A0_1 l0_1.length c0_1] 26 (0, 0)) (Bu BK182.out)) : gb182 ≠ gb190)); have NB190_182 := Aside0.mk ((by rw [hg]; exact Nat.ne_of_gt (blk_lt (g := gb182) (o := .cells #[.slice A0_0 l0_0.length c0_0, .slice A0_1 l0_1.length c0_1] 26 (0, 0)) (Bu BK182.out)) : gb190 ≠ gb182)); have NB183_190 := Aside0.mk ((by rw [hg]; exact Nat.ne_of_lt (blk_lt (g := gb183) (o := .cells #[.slice A1_0 l1_0.length c1_0, .slice A1_1 l1_1.length c1_1, .int .i64 a1_2, .int .i64 a1_3] 36 (0, 0)) (Bu BK183.out)) : gb183 ≠ gb190)); have NB190_183 := Aside0.mk ((by rw [hg]; exact Nat.ne_of_gt (blk_lt (g := gb183) (o := .cells #[.slice A1_0 l1_0.length c1_0, .slice A1_1 l1_1.length c1_1, .int .i64 a1_2, .int .i64 a1_3] 36 (0, 0)) (Bu BK183.out)) : gb190 ≠ gb183)); have NB184_190 := Aside0.mk ((by rw [hg]; exact Nat.ne_of_lt (blk_lt (g := gb184) (o := .cells #[.slice none 0 0, .slice none 0 0] 26 (0, 0)) (Bu BK184.out)) : gb184 ≠ gb190)); have NB190_184 := Aside0.mk ((by rw [hg]; exact Nat.ne_of_gt (blk_lt (g := gb184) (o := .cells #[.slice none 0 0, .slice none 0 0] 26 (0, 0)) (Bu BK184.out)) : gb190 ≠ gb184)); replace HO189 := Aside0.mk (Rb HO189.out hb); replace BK182 := Aside0.mk (Bb BK182.out hb); replace BK183 := Aside0.mk (Bb BK183.out hb); replace BK184 := Aside0.mk (Bb BK184.out hb); replace HB := Aside0.mk (below_step (HBu HB.out) hb); clear hb hbox hg; have hnb43 := NB190_182.out; have hnc43 := NB182_190.out; have hnb44 := NB190_183.out; have hnc44 := NB183_190.out; have hnb45 := NB190_184.out; have hnc45 := NB184_190.out; have hcz46_0 : w42.cell? ⟨gb190, 0, none⟩ = some (.slice none 0 0) := (blk_cell BK190.out 0).trans rfl; have hcz46_1 : w42.cell? ⟨gb190, 1, none⟩ = some (.slice none 0 0) := (blk_cell BK190.out 1).trans rfl; have hfz46_0 := blk_frozen BK190.out 0; have hfz46_1 := blk_frozen BK190.out 1; have hcz47_0 : w42.cell? ⟨gb183, 0, none⟩ = some (.slice A1_0 l1_0.length c1_0) := (blk_cell BK183.out 0).trans rfl; have hcz47_1 : w42.cell? ⟨gb183, 1, none⟩ = some (.slice A1_1 l1_1.length c1_1) := (blk_cell BK183.out 1).trans rfl; have hcz47_2 : w42.cell? ⟨gb183, 2, none⟩ = some (.int .i64 a1_2) := (blk_cell BK183.out 2).trans rfl; have hcz47_3 : w42.cell? ⟨gb183, 3, none⟩ = some (.int .i64 a1_3) := (blk_cell BK183.out 3).trans rfl; have hfz47_0 := blk_frozen BK183.out 0; have hfz47_1 := blk_frozen BK183.out 1; have hfz47_2 := blk_frozen BK183.out 2; have hfz47_3 := blk_frozen BK183.out 3) | ((with_reducible refine gate_callee (f := 49) rfl ?_); refine goesL_ (some 30) rfl rfl Try.func49 (by kernel_rfl) rfl #[.agg #[.slice A1_0 l1_0.length c1_0, .slice A1_1 l1_1.length c1_1, .int .i64 a1_2, .int .i64 a1_3]] rfl (by (try simp only [List.map_toArray, List.map_cons, List.map_nil]); first | done | rfl | (simp only [List.length_drop, List.length_take]; rfl)) ?_; (with_reducible refine (spec_l3All.calls kj2 _ _ l1_0 _ _ l1_1 a1_2 a1_3 t191 _ ?side1 ?side2 ?side3 ?side4 A36.out).mono ?_); (case side1 => exact Kd.C_below HR1_0.out (HBu HB.out)); (case side2 => exact HC1_0.out); (case side3 => exact Kd.C_below HR1_1.out (HBu HB.out)); (case side4 => exact HC1_1.out); rintro e w48 ⟨v192, rfl, ho0, hb⟩; refine ⟨_, rfl, ?_⟩; have HO193 := Aside0.mk (Kd.R_lower (Kd.R_new' ho0 (Kd.R_lt (Ru (Rf2 HO189.out BK190.out (by decide) (.slice Ao41 t187.length co41) (.slice none 0 0))))) (below_size (HBu HB.out))); replace HO189 := Aside0.mk (Kd.R_elder' (Ru (Rf2 HO189.out BK190.out (by decide) (.slice Ao41 t187.length co41) (.slice none 0 0))) (Kd.R_base ho0) hb); replace BK182 := Aside0.mk (blk_below (g := gb182) (o := .cells #[.slice A0_0 l0_0.length c0_0, .slice A0_1 l0_1.length c0_1] 26 (0, 0)) (by (with_reducible repeat (first | refine blk_drewN ?_ _ | refine blk_drew ?_ | refine blk_alloc ?_ _)); refine blk_far ?_ NB182_190.out _; (with_reducible repeat (first | refine blk_drewN ?_ _ | refine blk_drew ?_ | refine blk_alloc ?_ _)); refine blk_far ?_ NB182_190.out _; (with_reducible repeat (first | refine blk_drewN ?_ _ | refine blk_drew ?_ | refine blk_alloc ?_ _)); exact BK182.out) hb); replace BK183 := Aside0.mk (blk_below (g := gb183) (o := .cells #[.slice A1_0 l1_0.length c1_0, .slice A1_1 l1_1.length c1_1, .int .i64 a1_2, .int .i64 a1_3] 36 (0, 0)) (by (with_reducible repeat (first | refine blk_drewN ?_ _ | refine blk_drew ?_ | refine blk_alloc ?_ _)); refine blk_far ?_ NB183_190.out _; (with_reducible repeat (first | refine blk_drewN ?_ _ | refine blk_drew ?_ | refine blk_alloc ?_ _)); refine blk_far ?_ NB183_190.out _; (with_reducible repeat (first | refine blk_drewN ?_ _ | refine blk_drew ?_ | refine blk_alloc ?_ _)); exact BK183.out) hb); replace BK184 := Aside0.mk (blk_below (g := gb184) (o := .cells #[.slice none 0 0, .slice none 0 0] 26 (0, 0)) (by (with_reducible repeat (first | refine blk_drewN ?_ _ | refine blk_drew ?_ | refine blk_alloc ?_ _)); refine blk_far ?_ NB184_190.out _; (with_reducible repeat (first | refine blk_drewN ?_ _ | refine blk_drew ?_ | refine blk_alloc ?_ _)); refine blk_far ?_ NB184_190.out _; (with_reducible repeat (first | refine blk_drewN ?_ _ | refine blk_drew ?_ | refine blk_alloc ?_ _)); exact BK184.out) hb); replace BK190 := Aside0.mk (blk_below (g := gb190) (o := .cells #[.slice Ao41 t187.length co41, .slice none 0 0] 26 (0, 0)) (by (with_reducible repeat (first | refine blk_drewN ?_ _ | refine blk_drew ?_ | refine blk_alloc ?_ _)); refine blk_put (cs := #[.slice Ao41 t187.length co41, .slice none 0 0]) ?_ 1 _ rfl; (with_reducible repeat (first | refine blk_drewN ?_ _ | refine blk_drew ?_ | refine blk_alloc ?_ _)); refine blk_put (cs := #[.slice none 0 0, .slice none 0 0]) ?_ 0 _ rfl; (with_reducible repeat (first | refine blk_drewN ?_ _ | refine blk_drew ?_ | refine blk_alloc ?_ _)); exact BK190.out) hb); replace HB := Aside0.mk (below_step (HBu HB.out) hb); (try clear hb); (try clear hb2); (try clear hk); (try clear hi); (try clear ho0)))
    go_loopg [7] kj2 (fun kq v7 w' => ∃ (x7_2 : Int) (x191001_2 : List Int) (u191001 : Value), v7 = .int .i64 x7_2 ∧ Aside0 (spec_Look.l0 kq t191 x7_2 l0_0 l0_1 t187 x191001_2 = some (r1, r2)) ∧ Aside0 (kq ≤ kj2) ∧ Aside0 (Kd.R (Kd.int .i64) 3 w' w.heap.size (fun k_ => some k_ ≠ ((.slice Ao41 t187.length co41) : Value).ownBlock ∧ some k_ ≠ (u191001 : Value).ownBlock) v192 t191) ∧ Aside0 (Kd.R (Kd.int .i64) 3 w' w.heap.size (fun k_ => some k_ ≠ (v192 : Value).ownBlock ∧ some k_ ≠ (u191001 : Value).ownBlock) (.slice Ao41 t187.length co41) t187) ∧ Aside0 (Kd.R (Kd.int .i64) 3 w' w.heap.size (fun k_ => some k_ ≠ (v192 : Value).ownBlock ∧ some k_ ≠ ((.slice Ao41 t187.length co41) : Value).ownBlock) u191001 x191001_2) ∧ Aside0 (w'.heap[gb182]? = some (.cells #[(.slice A0_0 l0_0.length c0_0), (.slice A0_1 l0_1.length c0_1)] 26 (0, 0))) ∧ Aside0 (w'.heap[gb183]? = some (.cells #[(.slice A1_0 l1_0.length c1_0), (.slice A1_1 l1_1.length c1_1), .int .i64 a1_2, .int .i64 a1_3] 36 (0, 0))) ∧ Aside0 (w'.heap[gb184]? = some (.cells #[(.slice none 0 0), (.slice none 0 0)] 26 (0, 0))) ∧ Aside0 (w'.heap[gb190]? = some (.cells #[(.slice Ao41 t187.length co41), u191001] 26 (0, 0))) ∧ Aside0 (Below w.heap.size w w'))
    case atStart => exact ⟨(0), (([] : List Int)), (.slice none 0 0), (by first | rfl | (simp; done) | (simp [*]; done)), H', ⟨Nat.le_refl _⟩, ⟨by (with_reducible repeat (first | apply Kd.R_alloc | apply Kd.R_drewN | apply Kd.R_drew)); exact Kd.R_mono HO193.out (fun _ hk => ⟨hk.2, (by simp [Value.ownBlock])⟩)⟩, ⟨by (with_reducible repeat (first | apply Kd.R_alloc | apply Kd.R_drewN | apply Kd.R_drew)); exact Kd.R_mono HO189.out (fun _ hk => ⟨hk.2, (by simp [Value.ownBlock])⟩)⟩, ⟨by first | exact Kd.R_nil _ _ _ _ _ | exact Kd.N_nil _ _ _ _ _ | exact Kd.V_nil _ _ _ _ _ | exact Kd.Q_nil _ _ _ _ _ | exact Kd.S_nil _ _ _ _ _⟩, ⟨by (with_reducible repeat (first | refine blk_drewN ?_ _ | refine blk_drew ?_ | refine blk_alloc ?_ _)); exact BK182.out⟩, ⟨by (with_reducible repeat (first | refine blk_drewN ?_ _ | refine blk_drew ?_ | refine blk_alloc ?_ _)); exact BK183.out⟩, ⟨by (with_reducible repeat (first | refine blk_drewN ?_ _ | refine blk_drew ?_ | refine blk_alloc ?_ _)); exact BK184.out⟩, ⟨by (with_reducible repeat (first | refine blk_drewN ?_ _ | refine blk_drew ?_ | refine blk_alloc ?_ _)); exact BK190.out⟩, ⟨HBu HB.out⟩⟩
    case round =>
     clear H'
     try clear c1
     try clear c2
     try clear p2
     try clear c3
     try clear c4
     try clear c8
     try clear c10
     try clear c11
     try clear c12
     try clear c15
     try clear c17
     try clear c20
     try clear c21
     try clear c24
     try clear c27
     try clear c28
     try clear c31
     try clear c32
     try clear c33
     try clear c37
     try clear c38
     try clear c39
     try clear c43
     try clear c44
     try clear c45
     try clear c48
     try clear hcz13_0
     try clear hcz13_1
     try clear hcz16_0
     try clear hcz16_1
     try clear hcz16_2
     try clear hcz16_3
     try clear hcz18_0
     try clear hcz18_1
     try clear hcz18_2
     try clear hcz18_3
     try clear hcz19_0
     try clear hcz19_1
     try clear hcz22_0
     try clear hcz22_1
     try clear hcz25_0
     try clear hcz25_1
     try clear hcz25_2
     try clear hcz25_3
     try clear hcz29_0
     try clear hcz29_1
     try clear hcz34_0
     try clear hcz34_1
     try clear hcz39_0
     try clear hcz39_1
     try clear hcz39_2
     try clear hcz39_3
     try clear hcz46_0
     try clear hcz46_1
     try clear hcz47_0
     try clear hcz47_1
     try clear hcz47_2
     try clear hcz47_3
     try clear hfz13_0
     try clear hfz13_1
     try clear hfz16_0
     try clear hfz16_1
     try clear hfz16_2
     try clear hfz16_3
     try clear hfz18_0
     try clear hfz18_1
     try clear hfz18_2
     try clear hfz18_3
     try clear hfz19_0
     try clear hfz19_1
     try clear hfz22_0
     try clear hfz22_1
     try clear hfz25_0
     try clear hfz25_1
     try clear hfz25_2
     try clear hfz25_3
     try clear hfz29_0
     try clear hfz29_1
     try clear hfz34_0
     try clear hfz34_1
     try clear hfz39_0
     try clear hfz39_1
     try clear hfz39_2
     try clear hfz39_3
     try clear hfz46_0
     try clear hfz46_1
     try clear hfz47_0
     try clear hfz47_1
     try clear hfz47_2
     try clear hfz47_3
     try clear p2
     obtain ⟨x7_2, x191001_2, u191001, rfl, HA, HK2, HO_6, HO_191000, HO_191001, BK182, BK183, BK184, BK190, HB⟩ := hrel
     cases gk with
     | zero => exact absurd HA.out (by simp [spec_Look.l0])
     | succ k2 =>
      have H := HA.out
      clear HA
      simp only [spec_Look.l0] at H
      by_cases c49 : x7_2 < (t191.length : Int)
      ·rw [if_pos c49] at H
       have c49b0 : decide (x7_2 < (t191.length : Int)) = true := decide_eq_true c49
       clear c49
       by_cases c50 : 0 ≤ x7_2
       ·rw [if_pos c50] at H
        have c50b0 : decide (0 ≤ x7_2) = true := decide_eq_true c50
        clear c50
        by_cases c51 : 0 ≤ (rd t191 x7_2)
        ·rw [if_pos c51] at H
         have c51b0 : decide (0 ≤ (rd t191 x7_2)) = true := decide_eq_true c51
         clear c51
         by_cases c52 : (rd t191 x7_2) < (l0_1.length : Int)
         ·rw [if_pos c52] at H
          have c52b0 : decide ((rd t191 x7_2) < (l0_1.length : Int)) = true := decide_eq_true c52
          clear c52
          by_cases c53 : x191001_2.length < 17592186044416
          ·rw [if_pos c53] at H
           have LMc53 := Aside0.mk c53
           clear c53
           obtain ⟨y196, hy196⟩ : ∃ y_ : List Int, y_ = (x191001_2 ++ [rd l0_1 (rd t191 x7_2)]) := ⟨_, rfl⟩
           replace H : (spec_Look.l0 k2 t191 (wrap64 (x7_2 + 1)) l0_0 l0_1 t187 y196) = some (r1, r2) := by first | (rw [hy196]; with_reducible exact H) | (have H2_ := (Option.bind_some _ _).symm.trans H; rw [hy196]; with_reducible exact H2_) | (have H2_ := (Option.bind_some _ _).symm.trans H; with_reducible exact H2_) | with_reducible exact H | (rw [hy196]; exact H) | exact H
           have Ny196 := Aside0.mk hy196
           clear hy196
           have H' := Aside0.mk H
           clear H
           obtain ⟨Ao54, co54, eo54⟩ := Kd.R_slice HO_6.out
           subst eo54
           try go_wp2
           replace HO_6 := Aside0.mk (Kd.R_drew HO_6.out)
           replace HO_191000 := Aside0.mk (Kd.R_drew HO_191000.out)
           replace HO_191001 := Aside0.mk (Kd.R_drew HO_191001.out)
           replace BK182 := Aside0.mk (blk_drew BK182.out)
           replace BK183 := Aside0.mk (blk_drew BK183.out)
           replace BK184 := Aside0.mk (blk_drew BK184.out)
           replace BK190 := Aside0.mk (blk_drew BK190.out)
           replace HB := Aside0.mk (below_drew1 HB.out)
           have p194 : 0 ≤ (x7_2 : Int) := of_decide_eq_true (by first | (with_reducible assumption) | assumption)
           have q194 : x7_2 < (t191.length : Int) := of_decide_eq_true (by first | (with_reducible assumption) | assumption)
           obtain ⟨ad194, e194, hx194_0⟩ := Kd.at_int (Kd.R_reads' HO_6.out).2.2 x7_2 p194 q194
           cases e194
           replace p194 := eq_true p194
           replace q194 := eq_true q194
           have p195 : 0 ≤ ((rd t191 x7_2) : Int) := of_decide_eq_true (by first | (with_reducible assumption) | assumption)
           have q195 : (rd t191 x7_2) < (l0_1.length : Int) := of_decide_eq_true (by first | (with_reducible assumption) | assumption)
           obtain ⟨ad195, e195, hx195_0⟩ := Kd.at_int HR0_1.out (rd t191 x7_2) p195 q195
           have hw195_0 := hx195_0
           cases e195
           replace hx195_0 := (HB.out.cell (World.block_lt_of_cell? w _ hx195_0)).trans hx195_0
           replace p195 := eq_true p195
           replace q195 := eq_true q195
           refine start_ (n := 14) (S := fun w' => w'.cell? ⟨gb190, 0, none⟩ = some (.slice Ao41 t187.length co41) ∧ w'.cell? ⟨gb190, 1, none⟩ = some (u191001) ∧ w'.cell? ⟨gb182, 0, none⟩ = some (.slice A0_0 l0_0.length c0_0) ∧ w'.cell? ⟨gb182, 1, none⟩ = some (.slice (some ad195) l0_1.length c0_1) ∧ w'.cell? (ad194.add (x7_2).toNat) = some (.int .i64 (rd t191 x7_2)) ∧ w'.cell? (ad195.add ((rd t191 x7_2)).toNat) = some (.int .i64 (rd l0_1 (rd t191 x7_2)))) (ds := [11, 13]) #[false, false, false, false, false, false, false, false, false, false, false, false, false, false] (by kernel_rfl) rfl rfl ⟨(blk_cell BK190.out 0).trans rfl, (blk_cell BK190.out 1).trans rfl, (blk_cell BK182.out 0).trans rfl, (blk_cell BK182.out 1).trans rfl, hx194_0, ((HB.out.cell (World.block_lt_of_cell? w _ hw195_0)).trans hw195_0)⟩ (fun hHeld => ?_); refine with_tabW spec_Look.tab8 spec_Look.bits8 (fun HT_ HW_ => ?_)
           generalize wr.drew = w55 at HO_6 HO_191000 HO_191001 BK182 BK183 BK184 BK190 HB hx194_0 hx195_0 hHeld ⊢
           refine pure_ (i := 0) (N := some 37) (v := ?_) (a' := ?_) #[true, false, false, false, false, false, false, false, false, false, false, false, false, false] rfl rfl (any_of HT_.out (by kernel_rfl)) (fun _ _ _ h => h) (Or.inl ⟨by rfl, ?_⟩) ?_ ?_
           rotate_left
           ·intro w'
            go_simp
            with_reducible rfl
           rotate_left
           ·simp only [Act.put, List.setIfInBounds_toArray, List.set_cons_zero, List.set_cons_succ, i64_w, i32_w]
            rfl
           refine pure_ (i := 2) (N := some 39) (v := ?_) (a' := ?_) #[true, false, true, false, false, false, false, false, false, false, false, false, false, false] rfl rfl (any_of HT_.out (by kernel_rfl)) (fun _ _ _ h => h) (Or.inl ⟨by rfl, ?_⟩) ?_ ?_
           rotate_left
           ·intro w'
            go_simp
            with_reducible rfl
           rotate_left
           ·simp only [Act.put, List.setIfInBounds_toArray, List.set_cons_zero, List.set_cons_succ, i64_w, i32_w]
            rfl
           refine pure_ (i := 4) (N := some 41) (v := ?_) (a' := ?_) #[true, false, true, false, true, false, false, false, false, false, false, false, false, false] rfl rfl (any_of HT_.out (by kernel_rfl)) (fun _ _ _ h => h) (Or.inl ⟨by rfl, ?_⟩) ?_ ?_
           rotate_left
           ·intro w'
            go_simp
            with_reducible rfl
           rotate_left
           ·simp only [Act.put, List.setIfInBounds_toArray, List.set_cons_zero, List.set_cons_succ, i64_w, i32_w]
            rfl
           refine pure_ (i := 5) (N := some 42) (v := ?_) (a' := ?_) #[true, false, true, false, true, true, false, false, false, false, false, false, false, false] rfl rfl (any_of HT_.out (by kernel_rfl)) (fun _ _ _ h => h) (Or.inl ⟨by rfl, ?_⟩) ?_ ?_
           rotate_left
           ·intro w'
            go_simp
            with_reducible rfl
           rotate_left
           ·simp only [Act.put, List.setIfInBounds_toArray, List.set_cons_zero, List.set_cons_succ, i64_w, i32_w]
            rfl
           refine pure_ (i := 6) (N := some 43) (v := ?_) (a' := ?_) #[true, false, true, false, true, true, true, false, false, false, false, false, false, false] rfl rfl (any_of HT_.out (by kernel_rfl)) (fun _ _ _ h => h) (Or.inl ⟨by rfl, ?_⟩) ?_ ?_
           rotate_left
           ·intro w'
            go_simp
            with_reducible rfl
           rotate_left
           ·simp only [Act.put, List.setIfInBounds_toArray, List.set_cons_zero, List.set_cons_succ, i64_w, i32_w]
            rfl
           refine take_ (i := 1) (N := some 38) (v := ?_) (a' := ?_) #[true, true, true, false, true, true, true, false, false, false, false, false, false, false] rfl rfl (take_ofW HT_.out HW_.out (by kernel_rfl)) (fun _ _ _ h => h) (Or.inl ⟨by rfl, ?_⟩) hHeld ?_ ?_
           rotate_left
           ·rintro w' ⟨s0, s1, s2, s3, s4, s5⟩
            go_simp
            with_reducible rfl
           rotate_left
           ·simp only [Act.put, List.setIfInBounds_toArray, List.set_cons_zero, List.set_cons_succ, i64_w, i32_w]
            rfl
           refine take_ (i := 3) (N := some 40) (v := ?_) (a' := ?_) #[true, true, true, true, true, true, true, false, false, false, false, false, false, false] rfl rfl (take_ofW HT_.out HW_.out (by kernel_rfl)) (fun _ _ _ h => h) (Or.inl ⟨by rfl, ?_⟩) hHeld ?_ ?_
           rotate_left
           ·rintro w' ⟨s0, s1, s2, s3, s4, s5⟩
            go_simp
            with_reducible rfl
           rotate_left
           ·simp only [Act.put, List.setIfInBounds_toArray, List.set_cons_zero, List.set_cons_succ, i64_w, i32_w]
            rfl
           refine take_ (i := 7) (N := some 44) (v := ?_) (a' := ?_) #[true, true, true, true, true, true, true, true, false, false, false, false, false, false] rfl rfl (take_ofW HT_.out HW_.out (by kernel_rfl)) (fun _ _ _ h => h) (Or.inl ⟨by rfl, ?_⟩) hHeld ?_ ?_
           rotate_left
           ·rintro w' ⟨s0, s1, s2, s3, s4, s5⟩
            go_simp
            with_reducible rfl
           rotate_left
           ·simp only [Act.put, List.setIfInBounds_toArray, List.set_cons_zero, List.set_cons_succ, i64_w, i32_w]
            rfl
           refine pure_ (i := 8) (N := some 45) (v := ?_) (a' := ?_) #[true, true, true, true, true, true, true, true, true, false, false, false, false, false] rfl rfl (any_of HT_.out (by kernel_rfl)) (fun _ _ _ h => h) (Or.inl ⟨by rfl, ?_⟩) ?_ ?_
           rotate_left
           ·intro w'
            go_simp
            with_reducible rfl
           rotate_left
           ·simp only [Act.put, List.setIfInBounds_toArray, List.set_cons_zero, List.set_cons_succ, i64_w, i32_w]
            rfl
           refine take_ (i := 9) (N := some 46) (v := ?_) (a' := ?_) #[true, true, true, true, true, true, true, true, true, true, false, false, false, false] rfl rfl (take_ofW HT_.out HW_.out (by kernel_rfl)) (fun _ _ _ h => h) (Or.inl ⟨by rfl, ?_⟩) hHeld ?_ ?_
           rotate_left
           ·rintro w' ⟨s0, s1, s2, s3, s4, s5⟩
            go_simp
            with_reducible rfl
           rotate_left
           ·simp only [Act.put, List.setIfInBounds_toArray, List.set_cons_zero, List.set_cons_succ, i64_w, i32_w]
            rfl
           refine one_ (i := 10) (N := some 47) #[true, true, true, true, true, true, true, true, true, true, true, false, false, false] rfl rfl (one_of HT_.out (by kernel_rfl)) (by decide) (fun K hK => ?_)
           refine value_ (w1 := ?_) (v := ?_) (by rfl) rfl ?_ ?_
           rotate_left 2
           ·go_simp
            constructor
            ·rfl
            ·rfl
           refine hK.out _ _ ⟨(blk_cell (blk_alloc BK190.out _) 0).trans rfl, (blk_cell (blk_alloc BK190.out _) 1).trans rfl, (blk_cell (blk_alloc BK182.out _) 0).trans rfl, (blk_cell (blk_alloc BK182.out _) 1).trans rfl, (World.cell?_alloc_lt _ _ _ (World.block_lt_of_cell? _ _ (hHeld.2.2.2.2.1))).trans (hHeld.2.2.2.2.1), (World.cell?_alloc_lt _ _ _ (World.block_lt_of_cell? _ _ (((HB.out.cell (World.block_lt_of_cell? w _ hw195_0)).trans hw195_0)))).trans (((HB.out.cell (World.block_lt_of_cell? w _ hw195_0)).trans hw195_0))⟩ (fun hHeld => ?_)
           clear hK K
           refine norm_ (a' := ?_) ?_ ?_
           rotate_left
           ·show Act.put _ (some 47) _ = _
            simp only [Act.put, List.setIfInBounds_toArray, List.set_cons_zero, List.set_cons_succ, i64_w, i32_w]
            rfl
           refine last_ (i := 11) (N := some 48) #[true, true, true, true, true, true, true, true, true, true, true, true, false, false] rfl rfl (one_of HT_.out (by kernel_rfl)) (by decide) (fun K hK => ?_)
           refine Kd.R_append_step (Kd.int .i64) (w0 := w) w.heap.size (by rfl) (.tmp 38) (.tmp 47) 22 3 (.int .i64 0) 8 rfl Try.underlying22 info3 rfl (by decide) (by omega) u191001 x191001_2 (rd l0_1 (rd t191 x7_2)) [.int .i64 (rd l0_1 (rd t191 x7_2))] (fun k_ => some k_ ≠ (.slice (some ad194) t191.length co54 : Value).ownBlock ∧ some k_ ≠ (.slice Ao41 t187.length co41 : Value).ownBlock) (fun _ => False) rfl rfl ?aP (fun _ hk => hk.elim) ?aF ?aO ?aB ?aS ?aL ?_
           (case aP => exact rfl)
           (case aB => exact (HBu HB.out))
           (case aF => exact (fun k_ hk => ⟨Kd.fresh' (Kd.R_lt (Ru HO_6.out)) k_ hk, Kd.fresh' (Kd.R_lt (Ru HO_191000.out)) k_ hk⟩))
           (case aO => exact (Ru HO_191001.out))
           (case aS => exact (below_size (HBu HB.out)))
           (case aL => have := LMc53.out; omega)
           intro v197 w56 ho hb hg hat
           rw [← Ny196.out] at ho
           have n0_ := Aside0.mk (Kd.R_after (ok := (fun k_ => some k_ ≠ (.slice Ao41 t187.length co41 : Value).ownBlock)) (Ru HO_6.out) hg hat)
           have n1_ := Aside0.mk (Kd.R_after (ok := (fun k_ => some k_ ≠ (.slice (some ad194) t191.length co54 : Value).ownBlock)) (Ru HO_191000.out) hg hat)
           have n2_ := Aside0.mk (blk_grown (g := gb182) (o := .cells #[.slice A0_0 l0_0.length c0_0, .slice (some ad195) l0_1.length c0_1] 26 (0, 0)) (Bu BK182.out) hg (Kd.R_ne HO_191001.out BK182.out (by decide)))
           have n3_ := Aside0.mk (blk_grown (g := gb183) (o := .cells #[.slice A1_0 l1_0.length c1_0, .slice A1_1 l1_1.length c1_1, .int .i64 a1_2, .int .i64 a1_3] 36 (0, 0)) (Bu BK183.out) hg (Kd.R_ne HO_191001.out BK183.out (by decide)))
           have n4_ := Aside0.mk (blk_grown (g := gb184) (o := .cells #[.slice none 0 0, .slice none 0 0] 26 (0, 0)) (Bu BK184.out) hg (Kd.R_ne HO_191001.out BK184.out (by decide)))
           have n5_ := Aside0.mk (blk_grown (g := gb190) (o := .cells #[.slice Ao41 t187.length co41, u191001] 26 (0, 0)) (Bu BK190.out) hg (Kd.R_ne HO_191001.out BK190.out (by decide)))
           have n6_ := Aside0.mk (hb)
           have n7_ := Aside0.mk (ho)
           clear HO_6
           clear HO_191000
           clear BK182
           clear BK183
           clear BK184
           clear BK190
           clear HB
           clear HO_191001
           have HO_6 := n0_
           have HO_191000 := n1_
           have BK182 := n2_
           have BK183 := n3_
           have BK184 := n4_
           have BK190 := n5_
           have HB := n6_
           have HO198 := n7_
           clear n0_ n1_ n2_ n3_ n4_ n5_ n6_ n7_
           clear ho hb hg hat
           obtain ⟨Ao57, co57, eo57⟩ := Kd.R_slice HO198.out
           (first | subst eo57 | (injection eo57 with f1_ f2_ f3_; have f4_ := f1_.symm; have f5_ := f3_.symm; clear f1_ f2_ f3_; subst f4_; subst f5_))
           refine hK.out _ _ ?_
           clear hK K
           refine norm_ (a' := ?_) ?_ ?_
           rotate_left
           ·show Act.put _ (some 48) _ = _
            simp only [Act.put, List.setIfInBounds_toArray, List.set_cons_zero, List.set_cons_succ, i64_w, i32_w]
            rfl
           refine pure_ (i := 12) (N := some 49) (v := ?_) (a' := ?_) #[true, true, true, true, true, true, true, true, true, true, true, true, true, false] rfl rfl (any_of HT_.out (by kernel_rfl)) (fun _ _ _ h => h) (Or.inl ⟨by rfl, ?_⟩) ?_ ?_
           rotate_left
           ·intro w'
            go_simp
            with_reducible rfl
           rotate_left
           ·simp only [Act.put, List.setIfInBounds_toArray, List.set_cons_zero, List.set_cons_succ, i64_w, i32_w]
            rfl
           refine last_ (i := 13) (N := none) #[true, true, true, true, true, true, true, true, true, true, true, true, true, true] rfl rfl (one_of HT_.out (by kernel_rfl)) (by decide) (fun K hK => ?_)
           have hs58 : w56.cell? ⟨gb190, 1, none⟩ = some (u191001) := (blk_cell BK190.out 1).trans rfl
           have hfs58 := blk_frozen BK190.out 1
           have hns58_0 := NB182_190.out
           have hns58_1 := NB183_190.out
           have hns58_2 := NB184_190.out
           have hms58_0 := NB190_182.out
           have hms58_1 := NB190_183.out
           have hms58_2 := NB190_184.out
           refine skip_ (w1 := ?_) (by rfl) rfl ?_ ?_
           rotate_left
           ·go_simp
            rfl
           refine hK.out _ _ ?_
           clear hK K
           refine done_ (done_of HT_.out (by kernel_rfl)) ?_
           try go_wp2
           go_roundg k2
           case measure => have := HJ2.out; have := HK2.out; omega
           case rel => exact ⟨(wrap64 (x7_2 + 1)), (y196), (.slice Ao57 y196.length co57), (by first | rfl | (simp; done) | (simp [*]; done)), H', ⟨by have := HJ2.out; have := HK2.out; omega⟩, ⟨by (with_reducible repeat (first | apply Kd.R_alloc | apply Kd.R_drewN | apply Kd.R_drew)); exact Kd.R_mono (Kd.R_far (p := ⟨gb190, 1, none⟩) (Kd.R_types HO_6.out BK190.out (by decide)) (fun _ hk => hk.2) (.slice Ao57 y196.length co57)) (fun _ hk => ⟨hk.1.1, hk.1.2⟩)⟩, ⟨by (with_reducible repeat (first | apply Kd.R_alloc | apply Kd.R_drewN | apply Kd.R_drew)); exact Kd.R_mono (Kd.R_far (p := ⟨gb190, 1, none⟩) (Kd.R_types HO_191000.out BK190.out (by decide)) (fun _ hk => hk.2) (.slice Ao57 y196.length co57)) (fun _ hk => ⟨hk.1.1, hk.1.2⟩)⟩, ⟨by (with_reducible repeat (first | apply Kd.R_alloc | apply Kd.R_drewN | apply Kd.R_drew)); exact Kd.R_mono (Kd.R_far (p := ⟨gb190, 1, none⟩) (Kd.R_types HO198.out BK190.out (by decide)) (fun _ hk => hk.2) (.slice Ao57 y196.length co57)) (fun _ hk => ⟨hk.1.1, hk.1.2⟩)⟩, ⟨by (with_reducible repeat (first | refine blk_drewN ?_ _ | refine blk_drew ?_ | refine blk_alloc ?_ _)); refine blk_far ?_ NB182_190.out _; (with_reducible repeat (first | refine blk_drewN ?_ _ | refine blk_drew ?_ | refine blk_alloc ?_ _)); exact BK182.out⟩, ⟨by (with_reducible repeat (first | refine blk_drewN ?_ _ | refine blk_drew ?_ | refine blk_alloc ?_ _)); refine blk_far ?_ NB183_190.out _; (with_reducible repeat (first | refine blk_drewN ?_ _ | refine blk_drew ?_ | refine blk_alloc ?_ _)); exact BK183.out⟩, ⟨by (with_reducible repeat (first | refine blk_drewN ?_ _ | refine blk_drew ?_ | refine blk_alloc ?_ _)); refine blk_far ?_ NB184_190.out _; (with_reducible repeat (first | refine blk_drewN ?_ _ | refine blk_drew ?_ | refine blk_alloc ?_ _)); exact BK184.out⟩, ⟨by (with_reducible repeat (first | refine blk_drewN ?_ _ | refine blk_drew ?_ | refine blk_alloc ?_ _)); refine blk_put (cs := #[.slice Ao41 t187.length co41, u191001]) ?_ 1 _ rfl; (with_reducible repeat (first | refine blk_drewN ?_ _ | refine blk_drew ?_ | refine blk_alloc ?_ _)); exact BK190.out⟩, ⟨HBu HB.out⟩⟩
          ·rw [if_neg c53] at H
           exact absurd H (by simp)
         ·rw [if_neg c52] at H
          exact absurd H (by simp)
        ·rw [if_neg c51] at H
         exact absurd H (by simp)
       ·rw [if_neg c50] at H
        exact absurd H (by simp)
      ·rw [if_neg c49] at H
       have c49b0 : decide (x7_2 < (t191.length : Int)) = false := decide_eq_false c49
       clear c49
       simp only [Option.some.injEq, Prod.mk.injEq] at H
       obtain ⟨rfl, rfl⟩ := H
       obtain ⟨Ao59, co59, eo59⟩ := Kd.R_slice HO_6.out
       subst eo59
       have hnb60 := NB190_182.out
       have hnc60 := NB182_190.out
       have hnb61 := NB190_183.out
       have hnc61 := NB183_190.out
       have hnb62 := NB190_184.out
       have hnc62 := NB184_190.out
       have hcz63_0 : wr.cell? ⟨gb190, 0, none⟩ = some (.slice Ao41 t187.length co41) := (blk_cell BK190.out 0).trans rfl
       have hcz63_1 : wr.cell? ⟨gb190, 1, none⟩ = some (u191001) := (blk_cell BK190.out 1).trans rfl
       have hfz63_0 := blk_frozen BK190.out 0
       have hfz63_1 := blk_frozen BK190.out 1
       have hnb64 := NB184_182.out
       have hnc64 := NB182_184.out
       have hnb65 := NB184_183.out
       have hnc65 := NB183_184.out
       have hcz66_0 : wr.cell? ⟨gb184, 0, none⟩ = some (.slice none 0 0) := (blk_cell BK184.out 0).trans rfl
       have hcz66_1 : wr.cell? ⟨gb184, 1, none⟩ = some (.slice none 0 0) := (blk_cell BK184.out 1).trans rfl
       have hfz66_0 := blk_frozen BK184.out 0
       have hfz66_1 := blk_frozen BK184.out 1
       obtain ⟨Ao67, co67, eo67⟩ := Kd.R_slice HO_191001.out
       subst eo67
       go_wp2
       refine bodyPost_ret (results_cell_row rfl _ _ gb184 26 #[.slice Ao41 t187.length co41, .slice Ao67 x191001_2.length co67] (0, 0) _ rfl (by (with_reducible repeat (first | refine blk_drewN ?_ _ | refine blk_drew ?_ | refine blk_alloc ?_ _)); refine blk_put (cs := #[.slice Ao41 t187.length co41, .slice none 0 0]) ?_ 1 _ rfl; (with_reducible repeat (first | refine blk_drewN ?_ _ | refine blk_drew ?_ | refine blk_alloc ?_ _)); refine blk_put (cs := #[.slice none 0 0, .slice none 0 0]) ?_ 0 _ rfl; (with_reducible repeat (first | refine blk_drewN ?_ _ | refine blk_drew ?_ | refine blk_alloc ?_ _)); exact BK184.out) Try.underlying26 rfl (by kernel_rfl)) rfl ?_
       exact ⟨_, _, by first | rfl | (simp [errW_none, errW_some] <;> rfl) | (simp [*, errW_none, errW_some] <;> rfl), by (with_reducible repeat (first | apply Kd.R_alloc | apply Kd.R_drewN | apply Kd.R_drew)); exact Kd.R_mono (Kd.R_far (p := ⟨gb184, 1, none⟩) (Kd.R_far (p := ⟨gb184, 0, none⟩) (Kd.R_types HO_191000.out BK184.out (by decide)) (fun _ hk => hk.2) (.slice Ao41 t187.length co41)) (fun _ hk => hk.2) (.slice Ao67 x191001_2.length co67)) (fun _ hk => by first | exact hk.1.2 | exact hk.1), by (with_reducible repeat (first | apply Kd.R_alloc | apply Kd.R_drewN | apply Kd.R_drew)); exact Kd.R_mono (Kd.R_far (p := ⟨gb184, 1, none⟩) (Kd.R_far (p := ⟨gb184, 0, none⟩) (Kd.R_types HO_191001.out BK184.out (by decide)) (fun _ hk => hk.2) (.slice Ao41 t187.length co41)) (fun _ hk => hk.2) (.slice Ao67 x191001_2.length co67)) (fun _ hk => by first | exact hk.1.2 | exact hk.1), HBu HB.out⟩

/-! ### laws_toView: function 18 -/
def laws_toView.f (k : Nat) (l0_0 : List Int) (l0_1 : List Int) (a0_2 : Int) (a0_3 : Int) : Option (List Int × List Int × Int × Int) := (laws_toIntS.f k l0_0).bind fun t202 => ((laws_toIntS.f k l0_1).bind fun t205 => (some (t202, t205, a0_2, a0_3)))
theorem laws_toView.mono : ∀ a0 a1 a2 a3 k, LeO (laws_toView.f k a0 a1 a2 a3) (laws_toView.f (k + 1) a0 a1 a2 a3) := by
 intro a0 a1 a2 a3 k
 unfold laws_toView.f
 repeat' first
   | (with_reducible exact laws_toIntS.mono _ _)
   | (with_reducible exact LeO.refl _)
   | (with_reducible exact LeO.none _)
   | (with_reducible refine LeO.ite ?_ ?_)
   | (with_reducible refine LeO.bind ?_ (fun _ => ?_))
   | exact laws_toIntS.mono _ _
   | exact LeO.none _
   | refine LeO.ite ?_ ?_
   | refine LeO.bind ?_ (fun _ => ?_)
set_option maxHeartbeats 8000000 in
set_option maxRecDepth 100000 in
theorem laws_toView.calls (k : Nat) (A0_0 : Option Addr) (c0_0 : Nat) (l0_0 : List Int) (A0_1 : Option Addr) (c0_1 : Nat) (l0_1 : List Int) (a0_2 : Int) (a0_3 : Int) (r1 : List Int) (r2 : List Int) (r3 : Int) (r4 : Int) (w : World) (hr0_0 : Kd.C (Kd.int .i64) w A0_0 l0_0.length l0_0) (hc0_0 : l0_0.length ≤ c0_0) (hr0_1 : Kd.C (Kd.int .i64) w A0_1 l0_1.length l0_1) (hc0_1 : l0_1.length ≤ c0_1) (h : laws_toView.f k l0_0 l0_1 a0_2 a0_3 = some (r1, r2, r3, r4)) :
  Calls Try.prog 18 #[.agg #[.slice A0_0 l0_0.length c0_0, .slice A0_1 l0_1.length c0_1, .int .i64 a0_2, .int .i64 a0_3]] w fun e w' => ∃ v0_ v1_ : Value, e = .returned (.agg #[v0_, v1_, .int .i64 r3, .int .i64 r4]) ∧ Kd.R (Kd.int .i64) 3 w' w.heap.size (fun k_ => some k_ ≠ (v1_ : Value).ownBlock) v0_ r1 ∧ Kd.R (Kd.int .i64) 3 w' w.heap.size (fun k_ => some k_ ≠ (v0_ : Value).ownBlock) v1_ r2 ∧ Below w.heap.size w w' := by
 have hu33 := Try.underlying33
 have hu36 := Try.underlying36
 have HR0_0 := Aside0.mk hr0_0
 have HC0_0 := Aside0.mk hc0_0
 clear hr0_0 hc0_0
 have HR0_1 := Aside0.mk hr0_1
 have HC0_1 := Aside0.mk hc0_1
 clear hr0_1 hc0_1
 have HB := Aside0.mk (Below.refl w.heap.size w)
 have H : ((laws_toIntS.f k l0_0).bind fun t202 => ((laws_toIntS.f k l0_1).bind fun t205 => (some (t202, t205, a0_2, a0_3)))) = some (r1, r2, r3, r4) := h
 clear h
 replace H := Option.bind_eq_some_iff.mp H
 obtain ⟨t202, A20, H⟩ := H
 replace H : ((laws_toIntS.f k l0_1).bind fun t205 => (some (t202, t205, a0_2, a0_3))) = some (r1, r2, r3, r4) := H
 have A2 := Aside0.mk A20
 clear A20
 replace H := Option.bind_eq_some_iff.mp H
 obtain ⟨t205, A30, H⟩ := H
 replace H : (some (t202, t205, a0_2, a0_3)) = some (r1, r2, r3, r4) := H
 have A3 := Aside0.mk A30
 clear A30
 simp only [Option.some.injEq, Prod.mk.injEq] at H
 obtain ⟨rfl, rfl, rfl, rfl⟩ := H
 go_enter Try.func18, Try.ntmps18
 go_wp2_with (first | ((with_reducible refine gate_dst (N := 1) rfl ?_); refine box_event ?hg (N := 1) ?hd (cs := #[.slice A0_0 l0_0.length c0_0, .slice A0_1 l0_1.length c0_1, .int .i64 a0_2, .int .i64 a0_3]) (t := 33) ?hr ?_; (case hd => rfl); (case hg => rfl); (case hr => first | (go_simp; done) | (go_simp; rfl)); intro gb199 hg w4 hbox hb; have BK199 := Aside0.mk (hbox); have GW199 := Aside0.mk ((by rw [hg]; exact (below_size (Hu HB.out)) : w.heap.size ≤ gb199)); have GE199 := Aside0.mk ((by rw [hg]; exact (below_size (Hu HB.out)) : w.heap.size ≤ gb199)); replace HB := Aside0.mk (below_step (Hu HB.out) hb); clear hb hbox hg) | ((with_reducible refine gate_dst (N := 2) rfl ?_); refine box_event ?hg (N := 2) ?hd (cs := #[.slice none 0 0, .slice none 0 0, .int .i64 0, .int .i64 0]) (t := 36) ?hr ?_; (case hd => rfl); (case hg => rfl); (case hr => first | (go_simp; done) | (go_simp; rfl)); intro gb200 hg w5 hbox hb; have BK200 := Aside0.mk (hbox); have GW200 := Aside0.mk ((by rw [hg]; exact (below_size (HBu HB.out)) : w.heap.size ≤ gb200)); have GE200 := Aside0.mk ((by rw [hg]; exact (below_size (HBu HB.out)) : w.heap.size ≤ gb200)); have NB199_200 := Aside0.mk ((by rw [hg]; exact Nat.ne_of_lt (blk_lt (g := gb199) (o := .cells #[.slice A0_0 l0_0.length c0_0, .slice A0_1 l0_1.length c0_1, .int .i64 a0_2, .int .i64 a0_3] 33 (0, 0)) (Bu BK199.out)) : gb199 ≠ gb200)); have NB200_199 := Aside0.mk ((by rw [hg]; exact Nat.ne_of_gt (blk_lt (g := gb199) (o := .cells #[.slice A0_0 l0_0.length c0_0, .slice A0_1 l0_1.length c0_1, .int .i64 a0_2, .int .i64 a0_3] 33 (0, 0)) (Bu BK199.out)) : gb200 ≠ gb199)); replace BK199 := Aside0.mk (Bb BK199.out hb); replace HB := Aside0.mk (below_step (HBu HB.out) hb); clear hb hbox hg) | ((with_reducible refine gate_dst (N := 3) rfl ?_); refine box_event ?hg (N := 3) ?hd (cs := #[.slice none 0 0, .slice none 0 0, .int .i64 0, .int .i64 0]) (t := 36) ?hr ?_; (case hd => rfl); (case hg => rfl); (case hr => first | (go_simp; done) | (go_simp; rfl)); intro gb201 hg w6 hbox hb; have BK201 := Aside0.mk (hbox); have GW201 := Aside0.mk ((by rw [hg]; exact (below_size (HBu HB.out)) : w.heap.size ≤ gb201)); have GE201 := Aside0.mk ((by rw [hg]; exact (below_size (HBu HB.out)) : w.heap.size ≤ gb201)); have NB199_201 := Aside0.mk ((by rw [hg]; exact Nat.ne_of_lt (blk_lt (g := gb199) (o := .cells #[.slice A0_0 l0_0.length c0_0, .slice A0_1 l0_1.length c0_1, .int .i64 a0_2, .int .i64 a0_3] 33 (0, 0)) (Bu BK199.out)) : gb199 ≠ gb201)); have NB201_199 := Aside0.mk ((by rw [hg]; exact Nat.ne_of_gt (blk_lt (g := gb199) (o := .cells #[.slice A0_0 l0_0.length c0_0, .slice A0_1 l0_1.length c0_1, .int .i64 a0_2, .int .i64 a0_3] 33 (0, 0)) (Bu BK199.out)) : gb201 ≠ gb199)); have NB200_201 := Aside0.mk ((by rw [hg]; exact Nat.ne_of_lt (blk_lt (g := gb200) (o := .cells #[.slice none 0 0, .slice none 0 0, .int .i64 0, .int .i64 0] 36 (0, 0)) (Bu BK200.out)) : gb200 ≠ gb201)); have NB201_200 := Aside0.mk ((by rw [hg]; exact Nat.ne_of_gt (blk_lt (g := gb200) (o := .cells #[.slice none 0 0, .slice none 0 0, .int .i64 0, .int .i64 0] 36 (0, 0)) (Bu BK200.out)) : gb201 ≠ gb200)); replace BK199 := Aside0.mk (Bb BK199.out hb); replace BK200 := Aside0.mk (Bb BK200.out hb); replace HB := Aside0.mk (below_step (HBu HB.out) hb); clear hb hbox hg; have hnb7 := NB199_200.out; have hnc7 := NB200_199.out; have hnb8 := NB199_201.out; have hnc8 := NB201_199.out; have hcz9_0 : w6.cell? ⟨gb199, 0, none⟩ = some (.slice A0_0 l0_0.length c0_0) := (blk_cell BK199.out 0).trans rfl; have hcz9_1 : w6.cell? ⟨gb199, 1, none⟩ = some (.slice A0_1 l0_1.length c0_1) := (blk_cell BK199.out 1).trans rfl; have hcz9_2 : w6.cell? ⟨gb199, 2, none⟩ = some (.int .i64 a0_2) := (blk_cell BK199.out 2).trans rfl; have hcz9_3 : w6.cell? ⟨gb199, 3, none⟩ = some (.int .i64 a0_3) := (blk_cell BK199.out 3).trans rfl; have hfz9_0 := blk_frozen BK199.out 0; have hfz9_1 := blk_frozen BK199.out 1; have hfz9_2 := blk_frozen BK199.out 2; have hfz9_3 := blk_frozen BK199.out 3) | ((with_reducible refine gate_callee (f := 23) rfl ?_); refine goesL_ (some 6) rfl rfl Try.func23 (by kernel_rfl) rfl #[.slice A0_0 l0_0.length c0_0] rfl (by (try simp only [List.map_toArray, List.map_cons, List.map_nil]); first | done | rfl | (simp only [List.length_drop, List.length_take]; rfl)) ?_; (with_reducible refine (laws_toIntS.calls k _ _ l0_0 t202 _ ?side1 ?side2 A2.out).mono ?_); (case side1 => exact (Cu ((Kd.C_below HR0_0.out HB.out)))); (case side2 => exact HC0_0.out); rintro e w10 ⟨v203, rfl, ho0, hb⟩; refine ⟨_, rfl, ?_⟩; have HO204 := Aside0.mk (Kd.R_lower ho0 (below_size (HBu HB.out))); replace BK199 := Aside0.mk (Bb BK199.out hb); replace BK200 := Aside0.mk (Bb BK200.out hb); replace BK201 := Aside0.mk (Bb BK201.out hb); replace HB := Aside0.mk (below_step (HBu HB.out) hb); (try clear hb); (try clear hb2); (try clear hk); (try clear hi); (try clear ho0); obtain ⟨Ao11, co11, eo11⟩ := Kd.R_slice HO204.out; subst eo11; have hnb12 := NB201_200.out; have hnc12 := NB200_201.out; have hcz13_0 : w10.cell? ⟨gb201, 0, none⟩ = some (.slice none 0 0) := (blk_cell BK201.out 0).trans rfl; have hcz13_1 : w10.cell? ⟨gb201, 1, none⟩ = some (.slice none 0 0) := (blk_cell BK201.out 1).trans rfl; have hcz13_2 : w10.cell? ⟨gb201, 2, none⟩ = some (.int .i64 0) := (blk_cell BK201.out 2).trans rfl; have hcz13_3 : w10.cell? ⟨gb201, 3, none⟩ = some (.int .i64 0) := (blk_cell BK201.out 3).trans rfl; have hfz13_0 := blk_frozen BK201.out 0; have hfz13_1 := blk_frozen BK201.out 1; have hfz13_2 := blk_frozen BK201.out 2; have hfz13_3 := blk_frozen BK201.out 3; have hcz14_0 : w10.cell? ⟨gb199, 0, none⟩ = some (.slice A0_0 l0_0.length c0_0) := (blk_cell BK199.out 0).trans rfl; have hcz14_1 : w10.cell? ⟨gb199, 1, none⟩ = some (.slice A0_1 l0_1.length c0_1) := (blk_cell BK199.out 1).trans rfl; have hcz14_2 : w10.cell? ⟨gb199, 2, none⟩ = some (.int .i64 a0_2) := (blk_cell BK199.out 2).trans rfl; have hcz14_3 : w10.cell? ⟨gb199, 3, none⟩ = some (.int .i64 a0_3) := (blk_cell BK199.out 3).trans rfl; have hfz14_0 := blk_frozen BK199.out 0; have hfz14_1 := blk_frozen BK199.out 1; have hfz14_2 := blk_frozen BK199.out 2; have hfz14_3 := blk_frozen BK199.out 3) | ((with_reducible refine gate_callee (f := 23) rfl ?_); refine goesL_ (some 10) rfl rfl Try.func23 (by kernel_rfl) rfl #[.slice A0_1 l0_1.length c0_1] rfl (by (try simp only [List.map_toArray, List.map_cons, List.map_nil]); first | done | rfl | (simp only [List.length_drop, List.length_take]; rfl)) ?_; (with_reducible refine (laws_toIntS.calls k _ _ l0_1 t205 _ ?side1 ?side2 A3.out).mono ?_); (case side1 => exact Kd.C_below HR0_1.out (HBu HB.out)); (case side2 => exact HC0_1.out); rintro e w15 ⟨v206, rfl, ho0, hb⟩; refine ⟨_, rfl, ?_⟩; have HO207 := Aside0.mk (Kd.R_lower (Kd.R_new' ho0 (Kd.R_lt (Ru (Kd.R_mono (Kd.R_far (p := ⟨gb201, 0, none⟩) (Kd.R_types HO204.out BK201.out (by decide)) (fun _ hk => hk.2) (.slice Ao11 t202.length co11)) (fun _ h_ => h_.1))))) (below_size (HBu HB.out))); replace HO204 := Aside0.mk (Kd.R_elder' (Ru (Kd.R_mono (Kd.R_far (p := ⟨gb201, 0, none⟩) (Kd.R_types HO204.out BK201.out (by decide)) (fun _ hk => hk.2) (.slice Ao11 t202.length co11)) (fun _ h_ => h_.1))) (Kd.R_base ho0) hb); replace BK199 := Aside0.mk (blk_below (g := gb199) (o := .cells #[.slice A0_0 l0_0.length c0_0, .slice A0_1 l0_1.length c0_1, .int .i64 a0_2, .int .i64 a0_3] 33 (0, 0)) (by (with_reducible repeat (first | refine blk_drewN ?_ _ | refine blk_drew ?_ | refine blk_alloc ?_ _)); refine blk_far ?_ NB199_201.out _; (with_reducible repeat (first | refine blk_drewN ?_ _ | refine blk_drew ?_ | refine blk_alloc ?_ _)); exact BK199.out) hb); replace BK200 := Aside0.mk (blk_below (g := gb200) (o := .cells #[.slice none 0 0, .slice none 0 0, .int .i64 0, .int .i64 0] 36 (0, 0)) (by (with_reducible repeat (first | refine blk_drewN ?_ _ | refine blk_drew ?_ | refine blk_alloc ?_ _)); refine blk_far ?_ NB200_201.out _; (with_reducible repeat (first | refine blk_drewN ?_ _ | refine blk_drew ?_ | refine blk_alloc ?_ _)); exact BK200.out) hb); replace BK201 := Aside0.mk (blk_below (g := gb201) (o := .cells #[.slice Ao11 t202.length co11, .slice none 0 0, .int .i64 0, .int .i64 0] 36 (0, 0)) (by (with_reducible repeat (first | refine blk_drewN ?_ _ | refine blk_drew ?_ | refine blk_alloc ?_ _)); refine blk_put (cs := #[.slice none 0 0, .slice none 0 0, .int .i64 0, .int .i64 0]) ?_ 0 _ rfl; (with_reducible repeat (first | refine blk_drewN ?_ _ | refine blk_drew ?_ | refine blk_alloc ?_ _)); exact BK201.out) hb); replace HB := Aside0.mk (below_step (HBu HB.out) hb); (try clear hb); (try clear hb2); (try clear hk); (try clear hi); (try clear ho0); obtain ⟨Ao16, co16, eo16⟩ := Kd.R_slice HO207.out; subst eo16; have hcz17_0 : w15.cell? ⟨gb201, 0, none⟩ = some (.slice Ao11 t202.length co11) := (blk_cell BK201.out 0).trans rfl; have hcz17_1 : w15.cell? ⟨gb201, 1, none⟩ = some (.slice none 0 0) := (blk_cell BK201.out 1).trans rfl; have hcz17_2 : w15.cell? ⟨gb201, 2, none⟩ = some (.int .i64 0) := (blk_cell BK201.out 2).trans rfl; have hcz17_3 : w15.cell? ⟨gb201, 3, none⟩ = some (.int .i64 0) := (blk_cell BK201.out 3).trans rfl; have hfz17_0 := blk_frozen BK201.out 0; have hfz17_1 := blk_frozen BK201.out 1; have hfz17_2 := blk_frozen BK201.out 2; have hfz17_3 := blk_frozen BK201.out 3; have hcz18_0 : w15.cell? ⟨gb199, 0, none⟩ = some (.slice A0_0 l0_0.length c0_0) := (blk_cell BK199.out 0).trans rfl; have hcz18_1 : w15.cell? ⟨gb199, 1, none⟩ = some (.slice A0_1 l0_1.length c0_1) := (blk_cell BK199.out 1).trans rfl; have hcz18_2 : w15.cell? ⟨gb199, 2, none⟩ = some (.int .i64 a0_2) := (blk_cell BK199.out 2).trans rfl; have hcz18_3 : w15.cell? ⟨gb199, 3, none⟩ = some (.int .i64 a0_3) := (blk_cell BK199.out 3).trans rfl; have hfz18_0 := blk_frozen BK199.out 0; have hfz18_1 := blk_frozen BK199.out 1; have hfz18_2 := blk_frozen BK199.out 2; have hfz18_3 := blk_frozen BK199.out 3; have hcz19_0 : w15.cell? ⟨gb200, 0, none⟩ = some (.slice none 0 0) := (blk_cell BK200.out 0).trans rfl; have hcz19_1 : w15.cell? ⟨gb200, 1, none⟩ = some (.slice none 0 0) := (blk_cell BK200.out 1).trans rfl; have hcz19_2 : w15.cell? ⟨gb200, 2, none⟩ = some (.int .i64 0) := (blk_cell BK200.out 2).trans rfl; have hcz19_3 : w15.cell? ⟨gb200, 3, none⟩ = some (.int .i64 0) := (blk_cell BK200.out 3).trans rfl; have hfz19_0 := blk_frozen BK200.out 0; have hfz19_1 := blk_frozen BK200.out 1; have hfz19_2 := blk_frozen BK200.out 2; have hfz19_3 := blk_frozen BK200.out 3))
 refine bodyPost_ret (results_cell_row rfl _ _ gb200 36 #[.slice Ao11 t202.length co11, .slice Ao16 t205.length co16, .int .i64 a0_2, .int .i64 a0_3] (0, 0) _ rfl (by (with_reducible repeat (first | refine blk_drewN ?_ _ | refine blk_drew ?_ | refine blk_alloc ?_ _)); refine blk_put (cs := #[.slice Ao11 t202.length co11, .slice Ao16 t205.length co16, .int .i64 a0_2, .int .i64 0]) ?_ 3 _ rfl; (with_reducible repeat (first | refine blk_drewN ?_ _ | refine blk_drew ?_ | refine blk_alloc ?_ _)); refine blk_put (cs := #[.slice Ao11 t202.length co11, .slice Ao16 t205.length co16, .int .i64 0, .int .i64 0]) ?_ 2 _ rfl; (with_reducible repeat (first | refine blk_drewN ?_ _ | refine blk_drew ?_ | refine blk_alloc ?_ _)); refine blk_put (cs := #[.slice Ao11 t202.length co11, .slice none 0 0, .int .i64 0, .int .i64 0]) ?_ 1 _ rfl; (with_reducible repeat (first | refine blk_drewN ?_ _ | refine blk_drew ?_ | refine blk_alloc ?_ _)); refine blk_put (cs := #[.slice none 0 0, .slice none 0 0, .int .i64 0, .int .i64 0]) ?_ 0 _ rfl; (with_reducible repeat (first | refine blk_drewN ?_ _ | refine blk_drew ?_ | refine blk_alloc ?_ _)); refine blk_far ?_ NB200_201.out _; (with_reducible repeat (first | refine blk_drewN ?_ _ | refine blk_drew ?_ | refine blk_alloc ?_ _)); refine blk_far ?_ NB200_201.out _; (with_reducible repeat (first | refine blk_drewN ?_ _ | refine blk_drew ?_ | refine blk_alloc ?_ _)); refine blk_far ?_ NB200_201.out _; (with_reducible repeat (first | refine blk_drewN ?_ _ | refine blk_drew ?_ | refine blk_alloc ?_ _)); exact BK200.out) Try.underlying36 rfl (by kernel_rfl)) rfl ?_
 exact ⟨_, _, by first | rfl | (simp [errW_none, errW_some] <;> rfl) | (simp [*, errW_none, errW_some] <;> rfl), by (with_reducible repeat (first | apply Kd.R_alloc | apply Kd.R_drewN | apply Kd.R_drew)); exact Kd.R_mono (Kd.R_far (p := ⟨gb200, 3, none⟩) (Kd.R_far (p := ⟨gb200, 2, none⟩) (Kd.R_far (p := ⟨gb200, 1, none⟩) (Kd.R_far (p := ⟨gb200, 0, none⟩) (Kd.R_far (p := ⟨gb201, 3, none⟩) (Kd.R_far (p := ⟨gb201, 2, none⟩) (Kd.R_far (p := ⟨gb201, 1, none⟩) (Kd.R_types (Kd.R_types HO204.out BK201.out (by decide)) BK200.out (by decide)) (fun _ hk => by first | exact hk.1.2 | exact hk.1) (.slice Ao16 t205.length co16)) (fun _ hk => by first | exact hk.1.2 | exact hk.1) (.int .i64 a0_2)) (fun _ hk => by first | exact hk.1.2 | exact hk.1) (.int .i64 a0_3)) (fun _ hk => hk.2) (.slice Ao11 t202.length co11)) (fun _ hk => hk.2) (.slice Ao16 t205.length co16)) (fun _ hk => hk.2) (.int .i64 a0_2)) (fun _ hk => hk.2) (.int .i64 a0_3)) (fun _ hk => hk.1.1.2), by (with_reducible repeat (first | apply Kd.R_alloc | apply Kd.R_drewN | apply Kd.R_drew)); exact Kd.R_mono (Kd.R_far (p := ⟨gb200, 3, none⟩) (Kd.R_far (p := ⟨gb200, 2, none⟩) (Kd.R_far (p := ⟨gb200, 1, none⟩) (Kd.R_far (p := ⟨gb200, 0, none⟩) (Kd.R_far (p := ⟨gb201, 3, none⟩) (Kd.R_far (p := ⟨gb201, 2, none⟩) (Kd.R_far (p := ⟨gb201, 1, none⟩) (Kd.R_types (Kd.R_types HO207.out BK201.out (by decide)) BK200.out (by decide)) (fun _ hk => by first | exact hk.1.2 | exact hk.1) (.slice Ao16 t205.length co16)) (fun _ hk => by first | exact hk.1.2 | exact hk.1) (.int .i64 a0_2)) (fun _ hk => by first | exact hk.1.2 | exact hk.1) (.int .i64 a0_3)) (fun _ hk => hk.2) (.slice Ao11 t202.length co11)) (fun _ hk => hk.2) (.slice Ao16 t205.length co16)) (fun _ hk => hk.2) (.int .i64 a0_2)) (fun _ hk => hk.2) (.int .i64 a0_3)) (fun _ hk => hk.1.1.2), HBu HB.out⟩

end Go.Proofs.Ytcpemdedmepfeac.PFnExactLook
