-- Printed out of the translation, hand-written contracts beside it; checked by the kernel alone.
import Derived.Test.YtcpemdedmepfeabPFnExactScanx0
import Derived.Test.YtcpemdedmepfeabPFnExactScanx1
import Derived.Test.YtcpemdedmepfeabPFnExactScanx2
namespace Go.Proofs.Ytcpemdedmepfeab.PFnExactScan
open Go.RowKit Go.Proofs.YtcpemdedmepfeabW.PrintWords Go.Proofs.YtcpemdedmepfeabW.PrintLast Go.Proofs.YtcpemdedmepfeabW.PrintMore
attribute [local go_sem] max2_int min2_int max_two min_two max_three min_three max_four min_four   -- for this text's walks alone
set_option linter.unusedVariables false
set_option linter.unusedSimpArgs false

/-! ### spec_Scan: function 10 -/
mutual
def spec_Scan.l0 : Nat → Int → Int → List Int → List Int → List Int → List Int → Option (List Int × List Int)
  | 0, _, _, _, _, _, _ => none
  | k + 1, x1, x6, x160000, x160001, x169000, x169001 => if x6 < (x160001.length : Int) then ((spec_l3Index.f k x160000 x6).bind fun t169 => ((spec_l4Line.f k x160000 x160001 x1 t169).bind fun t172 => (spec_Scan.l1 k x1 x6 t169 t172 0 0 x160000 x160001 x169000 x169001))) else (some (x169000, x169001))
def spec_Scan.l1 : Nat → Int → Int → List Int → List Int → Int → Int → List Int → List Int → List Int → List Int → Option (List Int × List Int)
  | 0, _, _, _, _, _, _, _, _, _, _ => none
  | k + 1, x1, x6, x7, x8, x9, x10, x160000, x160001, x169000, x169001 => if 0 ≤ x1 then (if x1 < (x7.length : Int) then (if x10 ≤ (rd x7 x1) then (if 0 ≤ x10 then (if x10 < (x8.length : Int) then ((spec_Plus.f x9 (rd x8 x10)).bind fun t177 => (spec_Scan.l1 k x1 x6 x7 x8 t177 (wrap64 (x10 + 1)) x160000 x160001 x169000 x169001)) else (none)) else (none)) else (if 0 ≤ x6 then (if x6 < (x169001.length : Int) then (spec_Scan.l0 k x1 (wrap64 (x6 + 1)) x160000 x160001 x169000 (x169001.set (x6 : Int).toNat x9)) else (none)) else (none))) else (none)) else (none)
end
def spec_Scan.f (k : Nat) (l0_0 : List Int) (l0_1 : List Int) (a1 : Int) : Option (List Int × List Int) := (spec_l4Axis.f k l0_0 l0_1 a1).bind fun t161 => (if t161 = true then ((spec_l4New.f k l0_0).bind fun bt162 => (spec_Scan.l0 k a1 0 l0_0 l0_1 bt162.1 bt162.2)) else (some (([] : List Int), ([] : List Int))))
theorem spec_Scan.mono_l : ∀ k, (∀ y0 y1 y2 y3 y4 y5, LeO (spec_Scan.l0 k y0 y1 y2 y3 y4 y5) (spec_Scan.l0 (k + 1) y0 y1 y2 y3 y4 y5)) ∧ (∀ y0 y1 y2 y3 y4 y5 y6 y7 y8 y9, LeO (spec_Scan.l1 k y0 y1 y2 y3 y4 y5 y6 y7 y8 y9) (spec_Scan.l1 (k + 1) y0 y1 y2 y3 y4 y5 y6 y7 y8 y9))
  | 0 => ⟨fun _ _ _ _ _ _ r h => by simp [spec_Scan.l0] at h, fun _ _ _ _ _ _ _ _ _ _ r h => by simp [spec_Scan.l1] at h⟩
  | k + 1 => by
    obtain ⟨ih0, ih1⟩ := spec_Scan.mono_l k
    refine ⟨?_, ?_⟩
    · intro y0 y1 y2 y3 y4 y5
      unfold spec_Scan.l0
      repeat' first
      | (with_reducible exact ih0 _ _ _ _ _ _)
      | (with_reducible exact ih1 _ _ _ _ _ _ _ _ _ _)
      | (with_reducible exact spec_l3Index.mono _ _ _)
      | (with_reducible exact spec_l4Axis.mono _ _ _ _)
      | (with_reducible exact spec_l4Line.mono _ _ _ _ _)
      | (with_reducible exact spec_l4New.mono _ _)
      | (with_reducible exact LeO.refl _)
      | (with_reducible exact LeO.none _)
      | (with_reducible refine LeO.ite ?_ ?_)
      | (with_reducible refine LeO.bind ?_ (fun _ => ?_))
      | exact ih0 _ _ _ _ _ _
      | exact ih1 _ _ _ _ _ _ _ _ _ _
      | exact spec_l3Index.mono _ _ _
      | exact spec_l4Axis.mono _ _ _ _
      | exact spec_l4Line.mono _ _ _ _ _
      | exact spec_l4New.mono _ _
      | exact LeO.none _
      | refine LeO.ite ?_ ?_
      | refine LeO.bind ?_ (fun _ => ?_)
    · intro y0 y1 y2 y3 y4 y5 y6 y7 y8 y9
      unfold spec_Scan.l1
      repeat' first
      | (with_reducible exact ih0 _ _ _ _ _ _)
      | (with_reducible exact ih1 _ _ _ _ _ _ _ _ _ _)
      | (with_reducible exact spec_l3Index.mono _ _ _)
      | (with_reducible exact spec_l4Axis.mono _ _ _ _)
      | (with_reducible exact spec_l4Line.mono _ _ _ _ _)
      | (with_reducible exact spec_l4New.mono _ _)
      | (with_reducible exact LeO.refl _)
      | (with_reducible exact LeO.none _)
      | (with_reducible refine LeO.ite ?_ ?_)
      | (with_reducible refine LeO.bind ?_ (fun _ => ?_))
      | exact ih0 _ _ _ _ _ _
      | exact ih1 _ _ _ _ _ _ _ _ _ _
      | exact spec_l3Index.mono _ _ _
      | exact spec_l4Axis.mono _ _ _ _
      | exact spec_l4Line.mono _ _ _ _ _
      | exact spec_l4New.mono _ _
      | exact LeO.none _
      | refine LeO.ite ?_ ?_
      | refine LeO.bind ?_ (fun _ => ?_)
theorem spec_Scan.mono : ∀ a0 a1 a2 k, LeO (spec_Scan.f k a0 a1 a2) (spec_Scan.f (k + 1) a0 a1 a2) := by
  intro a0 a1 a2 k
  obtain ⟨ih0, ih1⟩ := spec_Scan.mono_l k
  unfold spec_Scan.f
  repeat' first
      | (with_reducible exact ih0 _ _ _ _ _ _)
      | (with_reducible exact ih1 _ _ _ _ _ _ _ _ _ _)
      | (with_reducible exact spec_l3Index.mono _ _ _)
      | (with_reducible exact spec_l4Axis.mono _ _ _ _)
      | (with_reducible exact spec_l4Line.mono _ _ _ _ _)
      | (with_reducible exact spec_l4New.mono _ _)
      | (with_reducible exact LeO.refl _)
      | (with_reducible exact LeO.none _)
      | (with_reducible refine LeO.ite ?_ ?_)
      | (with_reducible refine LeO.bind ?_ (fun _ => ?_))
      | exact ih0 _ _ _ _ _ _
      | exact ih1 _ _ _ _ _ _ _ _ _ _
      | exact spec_l3Index.mono _ _ _
      | exact spec_l4Axis.mono _ _ _ _
      | exact spec_l4Line.mono _ _ _ _ _
      | exact spec_l4New.mono _ _
      | exact LeO.none _
      | refine LeO.ite ?_ ?_
      | refine LeO.bind ?_ (fun _ => ?_)
set_option maxHeartbeats 8000000 in
set_option maxRecDepth 100000 in
theorem spec_Scan.calls (k : Nat) (A0_0 : Option Addr) (c0_0 : Nat) (l0_0 : List Int) (A0_1 : Option Addr) (c0_1 : Nat) (l0_1 : List Int) (a1 : Int) (r1 : List Int) (r2 : List Int) (w : World) (hr0_0 : Kd.C (Kd.int .i64) w A0_0 l0_0.length l0_0) (hc0_0 : l0_0.length ≤ c0_0) (hr0_1 : Kd.C (Kd.int .i64) w A0_1 l0_1.length l0_1) (hc0_1 : l0_1.length ≤ c0_1) (h : spec_Scan.f k l0_0 l0_1 a1 = some (r1, r2)) :
    Calls Try.prog 10 #[.agg #[.slice A0_0 l0_0.length c0_0, .slice A0_1 l0_1.length c0_1], .int .i64 a1] w fun e w' => ∃ v0_ v1_ : Value, e = .returned (.agg #[v0_, v1_]) ∧ Kd.R (Kd.int .i64) 3 w' w.heap.size (fun k_ => some k_ ≠ (v1_ : Value).ownBlock) v0_ r1 ∧ Kd.R (Kd.int .i64) 3 w' w.heap.size (fun k_ => some k_ ≠ (v0_ : Value).ownBlock) v1_ r2 ∧ Below w.heap.size w w' := by
  have hu26 := Try.underlying26
  have HR0_0 := Aside0.mk hr0_0
  have HC0_0 := Aside0.mk hc0_0
  clear hr0_0 hc0_0
  have HR0_1 := Aside0.mk hr0_1
  have HC0_1 := Aside0.mk hc0_1
  clear hr0_1 hc0_1
  have HB := Aside0.mk (Below.refl w.heap.size w)
  have H : ((spec_l4Axis.f k l0_0 l0_1 a1).bind fun t161 => (if t161 = true then ((spec_l4New.f k l0_0).bind fun bt162 => (spec_Scan.l0 k a1 0 l0_0 l0_1 bt162.1 bt162.2)) else (some (([] : List Int), ([] : List Int))))) = some (r1, r2) := h
  clear h
  replace H := Option.bind_eq_some_iff.mp H
  obtain ⟨t161, A30, H⟩ := H
  replace H : (if t161 = true then ((spec_l4New.f k l0_0).bind fun bt162 => (spec_Scan.l0 k a1 0 l0_0 l0_1 bt162.1 bt162.2)) else (some (([] : List Int), ([] : List Int)))) = some (r1, r2) := H
  have A3 := Aside0.mk A30
  clear A30
  by_cases c4 : t161 = true
  · subst c4
    have H1 : ((spec_l4New.f k l0_0).bind fun bt162 => (spec_Scan.l0 k a1 0 l0_0 l0_1 bt162.1 bt162.2)) = some (r1, r2) := by rw [if_pos rfl] at H; exact H
    clear H
    have H := H1
    clear H1
    replace H := Option.bind_eq_some_iff.mp H
    obtain ⟨⟨t162, t165⟩, A50, H⟩ := H
    replace H : (spec_Scan.l0 k a1 0 l0_0 l0_1 t162 t165) = some (r1, r2) := H
    have A5 := Aside0.mk A50
    clear A50
    have H' := Aside0.mk H
    clear H
    go_enter Try.func10, Try.ntmps10
    go_wp2_with (first | ((with_reducible refine gate_dst (N := 2) rfl ?_); refine box_event ?hg (N := 2) ?hd (cs := #[.slice A0_0 l0_0.length c0_0, .slice A0_1 l0_1.length c0_1]) (t := 26) ?hr ?_; (case hd => rfl); (case hg => rfl); (case hr => first | (go_simp; done) | (go_simp; rfl)); intro gb159 hg w6 hbox hb; have n0_ := Aside0.mk (below_step (by repeat (first | (with_reducible first | exact HB.out | apply below_alloc | apply pw_below_drewN | apply below_drew1) | exact HB.out)) hb); have n1_ := Aside0.mk (hbox); have n2_ := Aside0.mk ((by rw [hg]; exact (below_size (by repeat (first | (with_reducible first | exact HB.out | apply below_alloc | apply pw_below_drewN | apply below_drew1) | exact HB.out))) : w.heap.size ≤ gb159)); have n3_ := Aside0.mk ((by rw [hg]; exact (below_size (by repeat (first | (with_reducible first | exact HB.out | apply below_alloc | apply pw_below_drewN | apply below_drew1) | exact HB.out))) : w.heap.size ≤ gb159)); clear HB; have HB := n0_; have BK159 := n1_; have GW159 := n2_; have GE159 := n3_; clear n0_ n1_ n2_ n3_; clear hb hbox hg) | ((with_reducible refine gate_dst (N := 4) rfl ?_); refine box_event ?hg (N := 4) ?hd (cs := #[.slice none 0 0, .slice none 0 0]) (t := 26) ?hr ?_; (case hd => rfl); (case hg => rfl); (case hr => first | (go_simp; done) | (go_simp; rfl)); intro gb160 hg w7 hbox hb; have n0_ := Aside0.mk (blk_below (g := gb159) (o := .cells #[.slice A0_0 l0_0.length c0_0, .slice A0_1 l0_1.length c0_1] 26 (0, 0)) (by (with_reducible repeat (first | refine blk_drewN ?_ _ | refine blk_drew ?_ | refine blk_alloc ?_ _)); exact BK159.out) hb); have n1_ := Aside0.mk (below_step (by repeat (first | (with_reducible first | exact HB.out | apply below_alloc | apply pw_below_drewN | apply below_drew1 | refine below_set ?_ GE159.out) | exact HB.out)) hb); have n2_ := Aside0.mk (hbox); have n3_ := Aside0.mk ((by rw [hg]; exact (below_size (by repeat (first | (with_reducible first | exact HB.out | apply below_alloc | apply pw_below_drewN | apply below_drew1 | refine below_set ?_ GE159.out) | exact HB.out))) : w.heap.size ≤ gb160)); have n4_ := Aside0.mk ((by rw [hg]; exact (below_size (by repeat (first | (with_reducible first | exact HB.out | apply below_alloc | apply pw_below_drewN | apply below_drew1 | refine below_set ?_ GE159.out) | exact HB.out))) : w.heap.size ≤ gb160)); have n5_ := Aside0.mk ((by rw [hg]; exact Nat.ne_of_lt (blk_lt (g := gb159) (o := .cells #[.slice A0_0 l0_0.length c0_0, .slice A0_1 l0_1.length c0_1] 26 (0, 0)) (by (with_reducible repeat (first | refine blk_drewN ?_ _ | refine blk_drew ?_ | refine blk_alloc ?_ _)); exact BK159.out)) : gb159 ≠ gb160)); have n6_ := Aside0.mk ((by rw [hg]; exact Nat.ne_of_gt (blk_lt (g := gb159) (o := .cells #[.slice A0_0 l0_0.length c0_0, .slice A0_1 l0_1.length c0_1] 26 (0, 0)) (by (with_reducible repeat (first | refine blk_drewN ?_ _ | refine blk_drew ?_ | refine blk_alloc ?_ _)); exact BK159.out)) : gb160 ≠ gb159)); clear BK159; clear HB; have BK159 := n0_; have HB := n1_; have BK160 := n2_; have GW160 := n3_; have GE160 := n4_; have NB159_160 := n5_; have NB160_159 := n6_; clear n0_ n1_ n2_ n3_ n4_ n5_ n6_; clear hb hbox hg; have hnb8 := NB159_160.out; have hnc8 := NB160_159.out; have hcz9_0 : w7.cell? ⟨gb159, 0, none⟩ = some (.slice A0_0 l0_0.length c0_0) := (blk_cell BK159.out 0).trans rfl; have hcz9_1 : w7.cell? ⟨gb159, 1, none⟩ = some (.slice A0_1 l0_1.length c0_1) := (blk_cell BK159.out 1).trans rfl; have hfz9_0 := blk_frozen BK159.out 0; have hfz9_1 := blk_frozen BK159.out 1) | ((with_reducible refine gate_callee (f := 34) rfl ?_); refine goesL_ (some 13) rfl rfl Try.func34 (by kernel_rfl) rfl #[.agg #[.slice A0_0 l0_0.length c0_0, .slice A0_1 l0_1.length c0_1], .int .i64 a1] rfl (by (try simp only [List.map_toArray, List.map_cons, List.map_nil]); first | done | rfl | (simp only [List.length_drop, List.length_take]; rfl)) ?_; (with_reducible refine (spec_l4Axis.calls k _ _ l0_0 _ _ l0_1 a1 true _ ?side1 ?side2 ?side3 ?side4 A3.out).mono ?_); (case side1 => repeat (first | exact (Kd.C_below HR0_0.out HB.out) | (with_reducible refine Kd.C_alloc ?_ _) | (with_reducible refine Kd.C_drewN ?_ _) | (with_reducible refine Kd.C_drew ?_))); (case side2 => exact HC0_0.out); (case side3 => repeat (first | exact (Kd.C_below HR0_1.out HB.out) | (with_reducible refine Kd.C_alloc ?_ _) | (with_reducible refine Kd.C_drewN ?_ _) | (with_reducible refine Kd.C_drew ?_))); (case side4 => exact HC0_1.out); rintro e w10 ⟨rfl, hb⟩; refine ⟨_, rfl, ?_⟩; have n0_ := Aside0.mk (blk_below (g := gb159) (o := .cells #[.slice A0_0 l0_0.length c0_0, .slice A0_1 l0_1.length c0_1] 26 (0, 0)) (by (with_reducible repeat (first | refine blk_drewN ?_ _ | refine blk_drew ?_ | refine blk_alloc ?_ _)); exact BK159.out) hb); have n1_ := Aside0.mk (blk_below (g := gb160) (o := .cells #[.slice none 0 0, .slice none 0 0] 26 (0, 0)) (by (with_reducible repeat (first | refine blk_drewN ?_ _ | refine blk_drew ?_ | refine blk_alloc ?_ _)); exact BK160.out) hb); have n2_ := Aside0.mk (below_step (by repeat (first | (with_reducible first | exact HB.out | apply below_alloc | apply pw_below_drewN | apply below_drew1 | refine below_set ?_ GE159.out | refine below_set ?_ GE160.out) | exact HB.out)) hb); clear BK159; clear BK160; clear HB; have BK159 := n0_; have BK160 := n1_; have HB := n2_; clear n0_ n1_ n2_; (try clear hb); (try clear hb2); (try clear hk); (try clear hi); have hcz11_0 : w10.cell? ⟨gb159, 0, none⟩ = some (.slice A0_0 l0_0.length c0_0) := (blk_cell BK159.out 0).trans rfl; have hcz11_1 : w10.cell? ⟨gb159, 1, none⟩ = some (.slice A0_1 l0_1.length c0_1) := (blk_cell BK159.out 1).trans rfl; have hfz11_0 := blk_frozen BK159.out 0; have hfz11_1 := blk_frozen BK159.out 1) | ((with_reducible refine gate_callee (f := 35) rfl ?_); refine goesL_ (some 18) rfl rfl Try.func35 (by kernel_rfl) rfl #[.slice A0_0 l0_0.length c0_0] rfl (by (try simp only [List.map_toArray, List.map_cons, List.map_nil]); first | done | rfl | (simp only [List.length_drop, List.length_take]; rfl)) ?_; (with_reducible refine (spec_l4New.calls k _ _ l0_0 t162 t165 _ ?side1 ?side2 A5.out).mono ?_); (case side1 => repeat (first | exact (Kd.C_below HR0_0.out HB.out) | (with_reducible refine Kd.C_alloc ?_ _) | (with_reducible refine Kd.C_drewN ?_ _) | (with_reducible refine Kd.C_drew ?_))); (case side2 => exact HC0_0.out); rintro e w12 ⟨v163, v166, rfl, ho0, ho1, hb⟩; refine ⟨_, rfl, ?_⟩; have n0_ := Aside0.mk (Kd.R_lower ho0 (below_size (by repeat (first | (with_reducible first | exact HB.out | apply below_alloc | apply pw_below_drewN | apply below_drew1 | refine below_set ?_ GE159.out | refine below_set ?_ GE160.out) | exact HB.out)))); have n1_ := Aside0.mk (Kd.R_lower ho1 (below_size (by repeat (first | (with_reducible first | exact HB.out | apply below_alloc | apply pw_below_drewN | apply below_drew1 | refine below_set ?_ GE159.out | refine below_set ?_ GE160.out) | exact HB.out)))); have n2_ := Aside0.mk (blk_below (g := gb159) (o := .cells #[.slice A0_0 l0_0.length c0_0, .slice A0_1 l0_1.length c0_1] 26 (0, 0)) (by (with_reducible repeat (first | refine blk_drewN ?_ _ | refine blk_drew ?_ | refine blk_alloc ?_ _)); exact BK159.out) hb); have n3_ := Aside0.mk (blk_below (g := gb160) (o := .cells #[.slice none 0 0, .slice none 0 0] 26 (0, 0)) (by (with_reducible repeat (first | refine blk_drewN ?_ _ | refine blk_drew ?_ | refine blk_alloc ?_ _)); exact BK160.out) hb); have n4_ := Aside0.mk (below_step (by repeat (first | (with_reducible first | exact HB.out | apply below_alloc | apply pw_below_drewN | apply below_drew1 | refine below_set ?_ GE159.out | refine below_set ?_ GE160.out) | exact HB.out)) hb); clear BK159; clear BK160; clear HB; have HO164 := n0_; have HO167 := n1_; have BK159 := n2_; have BK160 := n3_; have HB := n4_; clear n0_ n1_ n2_ n3_ n4_; (try clear hb); (try clear hb2); (try clear hk); (try clear hi); (try clear ho0); (try clear ho1)) | ((with_reducible refine gate_dst (N := 5) rfl ?_); refine box_event ?hg (N := 5) ?hd (cs := #[.slice none 0 0, .slice none 0 0]) (t := 26) ?hr ?_; (case hd => rfl); (case hg => rfl); (case hr => first | (go_simp; done) | (go_simp; rfl)); intro gb168 hg w13 hbox hb; have n0_ := Aside0.mk (Kd.R_below (by (with_reducible repeat (first | apply Kd.R_alloc | apply Kd.R_drewN | apply Kd.R_drew)); exact HO164.out) hb); have n1_ := Aside0.mk (Kd.R_below (by (with_reducible repeat (first | apply Kd.R_alloc | apply Kd.R_drewN | apply Kd.R_drew)); exact HO167.out) hb); have n2_ := Aside0.mk (blk_below (g := gb159) (o := .cells #[.slice A0_0 l0_0.length c0_0, .slice A0_1 l0_1.length c0_1] 26 (0, 0)) (by (with_reducible repeat (first | refine blk_drewN ?_ _ | refine blk_drew ?_ | refine blk_alloc ?_ _)); exact BK159.out) hb); have n3_ := Aside0.mk (blk_below (g := gb160) (o := .cells #[.slice none 0 0, .slice none 0 0] 26 (0, 0)) (by (with_reducible repeat (first | refine blk_drewN ?_ _ | refine blk_drew ?_ | refine blk_alloc ?_ _)); exact BK160.out) hb); have n4_ := Aside0.mk (below_step (by repeat (first | (with_reducible first | exact HB.out | apply below_alloc | apply pw_below_drewN | apply below_drew1 | refine below_set ?_ GE159.out | refine below_set ?_ GE160.out) | exact HB.out)) hb); have n5_ := Aside0.mk (hbox); have n6_ := Aside0.mk ((by rw [hg]; exact (below_size (by repeat (first | (with_reducible first | exact HB.out | apply below_alloc | apply pw_below_drewN | apply below_drew1 | refine below_set ?_ GE159.out | refine below_set ?_ GE160.out) | exact HB.out))) : w.heap.size ≤ gb168)); have n7_ := Aside0.mk ((by rw [hg]; exact (below_size (by repeat (first | (with_reducible first | exact HB.out | apply below_alloc | apply pw_below_drewN | apply below_drew1 | refine below_set ?_ GE159.out | refine below_set ?_ GE160.out) | exact HB.out))) : w.heap.size ≤ gb168)); have n8_ := Aside0.mk ((by rw [hg]; exact Nat.ne_of_lt (blk_lt (g := gb159) (o := .cells #[.slice A0_0 l0_0.length c0_0, .slice A0_1 l0_1.length c0_1] 26 (0, 0)) (by (with_reducible repeat (first | refine blk_drewN ?_ _ | refine blk_drew ?_ | refine blk_alloc ?_ _)); exact BK159.out)) : gb159 ≠ gb168)); have n9_ := Aside0.mk ((by rw [hg]; exact Nat.ne_of_gt (blk_lt (g := gb159) (o := .cells #[.slice A0_0 l0_0.length c0_0, .slice A0_1 l0_1.length c0_1] 26 (0, 0)) (by (with_reducible repeat (first | refine blk_drewN ?_ _ | refine blk_drew ?_ | refine blk_alloc ?_ _)); exact BK159.out)) : gb168 ≠ gb159)); have n10_ := Aside0.mk ((by rw [hg]; exact Nat.ne_of_lt (blk_lt (g := gb160) (o := .cells #[.slice none 0 0, .slice none 0 0] 26 (0, 0)) (by (with_reducible repeat (first | refine blk_drewN ?_ _ | refine blk_drew ?_ | refine blk_alloc ?_ _)); exact BK160.out)) : gb160 ≠ gb168)); have n11_ := Aside0.mk ((by rw [hg]; exact Nat.ne_of_gt (blk_lt (g := gb160) (o := .cells #[.slice none 0 0, .slice none 0 0] 26 (0, 0)) (by (with_reducible repeat (first | refine blk_drewN ?_ _ | refine blk_drew ?_ | refine blk_alloc ?_ _)); exact BK160.out)) : gb168 ≠ gb160)); clear HO164; clear HO167; clear BK159; clear BK160; clear HB; have HO164 := n0_; have HO167 := n1_; have BK159 := n2_; have BK160 := n3_; have HB := n4_; have BK168 := n5_; have GW168 := n6_; have GE168 := n7_; have NB159_168 := n8_; have NB168_159 := n9_; have NB160_168 := n10_; have NB168_160 := n11_; clear n0_ n1_ n2_ n3_ n4_ n5_ n6_ n7_ n8_ n9_ n10_ n11_; clear hb hbox hg; obtain ⟨Ao14, co14, eo14⟩ := Kd.R_slice HO164.out; subst eo14; have hnb15 := NB168_159.out; have hnc15 := NB159_168.out; have hnb16 := NB168_160.out; have hnc16 := NB160_168.out; have hcz17_0 : w13.cell? ⟨gb168, 0, none⟩ = some (.slice none 0 0) := (blk_cell BK168.out 0).trans rfl; have hcz17_1 : w13.cell? ⟨gb168, 1, none⟩ = some (.slice none 0 0) := (blk_cell BK168.out 1).trans rfl; have hfz17_0 := blk_frozen BK168.out 0; have hfz17_1 := blk_frozen BK168.out 1; obtain ⟨Ao18, co18, eo18⟩ := Kd.R_slice HO167.out; subst eo18))
    go_loopg [6] k (fun kq v6 w' => ∃ (x6_1 : Int) (x169000_1 : List Int) (x169001_1 : List Int) (u169000 : Value) (u169001 : Value), v6 = .int .i64 x6_1 ∧ Aside0 (spec_Scan.l0 kq a1 x6_1 l0_0 l0_1 x169000_1 x169001_1 = some (r1, r2)) ∧ Aside0 (kq ≤ k) ∧ Aside0 (Kd.R (Kd.int .i64) 3 w' w.heap.size (fun k_ => some k_ ≠ (u169001 : Value).ownBlock) u169000 x169000_1) ∧ Aside0 (Kd.R (Kd.int .i64) 3 w' w.heap.size (fun k_ => some k_ ≠ (u169000 : Value).ownBlock) u169001 x169001_1) ∧ Aside0 (w'.heap[gb159]? = some (.cells #[(.slice A0_0 l0_0.length c0_0), (.slice A0_1 l0_1.length c0_1)] 26 (0, 0))) ∧ Aside0 (w'.heap[gb160]? = some (.cells #[(.slice none 0 0), (.slice none 0 0)] 26 (0, 0))) ∧ Aside0 (w'.heap[gb168]? = some (.cells #[u169000, u169001] 26 (0, 0))) ∧ Aside0 (Below w.heap.size w w'))
    case atStart => exact ⟨(0), (t162), (t165), (.slice Ao14 t162.length co14), (.slice Ao18 t165.length co18), (by first | rfl | (simp; done) | (simp [*]; done)), H', ⟨Nat.le_refl _⟩, ⟨by (with_reducible repeat (first | apply Kd.R_alloc | apply Kd.R_drewN | apply Kd.R_drew)); exact Kd.R_mono (Kd.R_far (p := ⟨gb168, 1, none⟩) (Kd.R_far (p := ⟨gb168, 0, none⟩) (Kd.R_types HO164.out BK168.out (by decide)) (fun _ hk => hk.2) (.slice Ao14 t162.length co14)) (fun _ hk => hk.2) (.slice Ao18 t165.length co18)) (fun _ hk => hk.1)⟩, ⟨by (with_reducible repeat (first | apply Kd.R_alloc | apply Kd.R_drewN | apply Kd.R_drew)); exact Kd.R_mono (Kd.R_far (p := ⟨gb168, 1, none⟩) (Kd.R_far (p := ⟨gb168, 0, none⟩) (Kd.R_types HO167.out BK168.out (by decide)) (fun _ hk => hk.2) (.slice Ao14 t162.length co14)) (fun _ hk => hk.2) (.slice Ao18 t165.length co18)) (fun _ hk => hk.1)⟩, ⟨by (with_reducible repeat (first | refine blk_drewN ?_ _ | refine blk_drew ?_ | refine blk_alloc ?_ _)); refine blk_far ?_ NB159_168.out _; (with_reducible repeat (first | refine blk_drewN ?_ _ | refine blk_drew ?_ | refine blk_alloc ?_ _)); refine blk_far ?_ NB159_168.out _; (with_reducible repeat (first | refine blk_drewN ?_ _ | refine blk_drew ?_ | refine blk_alloc ?_ _)); exact BK159.out⟩, ⟨by (with_reducible repeat (first | refine blk_drewN ?_ _ | refine blk_drew ?_ | refine blk_alloc ?_ _)); refine blk_far ?_ NB160_168.out _; (with_reducible repeat (first | refine blk_drewN ?_ _ | refine blk_drew ?_ | refine blk_alloc ?_ _)); refine blk_far ?_ NB160_168.out _; (with_reducible repeat (first | refine blk_drewN ?_ _ | refine blk_drew ?_ | refine blk_alloc ?_ _)); exact BK160.out⟩, ⟨by (with_reducible repeat (first | refine blk_drewN ?_ _ | refine blk_drew ?_ | refine blk_alloc ?_ _)); refine blk_put (cs := #[.slice Ao14 t162.length co14, .slice none 0 0]) ?_ 1 _ rfl; (with_reducible repeat (first | refine blk_drewN ?_ _ | refine blk_drew ?_ | refine blk_alloc ?_ _)); refine blk_put (cs := #[.slice none 0 0, .slice none 0 0]) ?_ 0 _ rfl; (with_reducible repeat (first | refine blk_drewN ?_ _ | refine blk_drew ?_ | refine blk_alloc ?_ _)); exact BK168.out⟩, ⟨by repeat (first | (with_reducible first | exact HB.out | apply below_alloc | apply pw_below_drewN | apply below_drew1 | refine below_set ?_ GE159.out | refine below_set ?_ GE160.out | refine below_set ?_ GE168.out) | exact HB.out)⟩⟩
    case round =>
      clear H'
      try clear c1
      try clear p2
      try clear c3
      try clear c4
      try clear c8
      try clear c10
      try clear c15
      try clear c16
      try clear hcz11_0
      try clear hcz11_1
      try clear hcz17_0
      try clear hcz17_1
      try clear hcz9_0
      try clear hcz9_1
      try clear hfz11_0
      try clear hfz11_1
      try clear hfz17_0
      try clear hfz17_1
      try clear hfz9_0
      try clear hfz9_1
      obtain ⟨x6_1, x169000_1, x169001_1, u169000, u169001, rfl, HA, HK1, HO_169000, HO_169001, BK159, BK160, BK168, HB⟩ := hrel
      cases gk with
      | zero => exact absurd HA.out (by simp [spec_Scan.l0])
      | succ k1 =>
        have H := HA.out
        clear HA
        simp only [spec_Scan.l0] at H
        by_cases c19 : x6_1 < (l0_1.length : Int)
        · rw [if_pos c19] at H
          have c19b0 : decide (x6_1 < (l0_1.length : Int)) = true := decide_eq_true c19
          clear c19
          replace H := Option.bind_eq_some_iff.mp H
          obtain ⟨t169, A200, H⟩ := H
          replace H : ((spec_l4Line.f k1 l0_0 l0_1 a1 t169).bind fun t172 => (spec_Scan.l1 k1 a1 x6_1 t169 t172 0 0 l0_0 l0_1 x169000_1 x169001_1)) = some (r1, r2) := H
          have A20 := Aside0.mk A200
          clear A200
          replace H := Option.bind_eq_some_iff.mp H
          obtain ⟨t172, A210, H⟩ := H
          replace H : (spec_Scan.l1 k1 a1 x6_1 t169 t172 0 0 l0_0 l0_1 x169000_1 x169001_1) = some (r1, r2) := H
          have A21 := Aside0.mk A210
          clear A210
          have H' := Aside0.mk H
          clear H
          have hnb22 := NB159_160.out
          have hnc22 := NB160_159.out
          have hnb23 := NB159_168.out
          have hnc23 := NB168_159.out
          have hcz24_0 : wr.cell? ⟨gb159, 0, none⟩ = some (.slice A0_0 l0_0.length c0_0) := (blk_cell BK159.out 0).trans rfl
          have hcz24_1 : wr.cell? ⟨gb159, 1, none⟩ = some (.slice A0_1 l0_1.length c0_1) := (blk_cell BK159.out 1).trans rfl
          have hfz24_0 := blk_frozen BK159.out 0
          have hfz24_1 := blk_frozen BK159.out 1
          go_wp2_with (first | ((with_reducible refine gate_callee (f := 36) rfl ?_); refine goesL_ (some 29) rfl rfl Try.func36 (by kernel_rfl) rfl #[.slice A0_0 l0_0.length c0_0, .int .i64 x6_1] rfl (by (try simp only [List.map_toArray, List.map_cons, List.map_nil]); first | done | rfl | (simp only [List.length_drop, List.length_take]; rfl)) ?_; (with_reducible refine (spec_l3Index.calls k1 _ _ l0_0 x6_1 t169 _ ?side1 ?side2 A20.out).mono ?_); (case side1 => repeat (first | exact (Kd.C_below HR0_0.out HB.out) | (with_reducible refine Kd.C_alloc ?_ _) | (with_reducible refine Kd.C_drewN ?_ _) | (with_reducible refine Kd.C_drew ?_))); (case side2 => exact HC0_0.out); rintro e w25 ⟨v170, rfl, ho0, hb⟩; refine ⟨_, rfl, ?_⟩; have n0_ := Aside0.mk (Kd.R_elder' (by (with_reducible repeat (first | apply Kd.R_alloc | apply Kd.R_drewN | apply Kd.R_drew)); exact HO_169000.out) (Kd.R_base ho0) hb); have n1_ := Aside0.mk (Kd.R_elder' (by (with_reducible repeat (first | apply Kd.R_alloc | apply Kd.R_drewN | apply Kd.R_drew)); exact HO_169001.out) (Kd.R_base ho0) hb); have n2_ := Aside0.mk (Kd.R_lower (Kd.R_new' (Kd.R_new' ho0 (Kd.R_lt (by (with_reducible repeat (first | apply Kd.R_alloc | apply Kd.R_drewN | apply Kd.R_drew)); exact HO_169000.out))) (Kd.R_lt (by (with_reducible repeat (first | apply Kd.R_alloc | apply Kd.R_drewN | apply Kd.R_drew)); exact HO_169001.out))) (below_size (by repeat (first | (with_reducible first | exact HB.out | apply below_alloc | apply pw_below_drewN | apply below_drew1 | refine below_set ?_ GE159.out | refine below_set ?_ GE160.out | refine below_set ?_ GE168.out) | exact HB.out)))); have n3_ := Aside0.mk (blk_below (g := gb159) (o := .cells #[.slice A0_0 l0_0.length c0_0, .slice A0_1 l0_1.length c0_1] 26 (0, 0)) (by (with_reducible repeat (first | refine blk_drewN ?_ _ | refine blk_drew ?_ | refine blk_alloc ?_ _)); exact BK159.out) hb); have n4_ := Aside0.mk (blk_below (g := gb160) (o := .cells #[.slice none 0 0, .slice none 0 0] 26 (0, 0)) (by (with_reducible repeat (first | refine blk_drewN ?_ _ | refine blk_drew ?_ | refine blk_alloc ?_ _)); exact BK160.out) hb); have n5_ := Aside0.mk (blk_below (g := gb168) (o := .cells #[u169000, u169001] 26 (0, 0)) (by (with_reducible repeat (first | refine blk_drewN ?_ _ | refine blk_drew ?_ | refine blk_alloc ?_ _)); exact BK168.out) hb); have n6_ := Aside0.mk (below_step (by repeat (first | (with_reducible first | exact HB.out | apply below_alloc | apply pw_below_drewN | apply below_drew1 | refine below_set ?_ GE159.out | refine below_set ?_ GE160.out | refine below_set ?_ GE168.out) | exact HB.out)) hb); clear HO_169000; clear HO_169001; clear BK159; clear BK160; clear BK168; clear HB; have HO_169000 := n0_; have HO_169001 := n1_; have HO171 := n2_; have BK159 := n3_; have BK160 := n4_; have BK168 := n5_; have HB := n6_; clear n0_ n1_ n2_ n3_ n4_ n5_ n6_; (try clear hb); (try clear hb2); (try clear hk); (try clear hi); (try clear ho0); have hcz26_0 : w25.cell? ⟨gb159, 0, none⟩ = some (.slice A0_0 l0_0.length c0_0) := (blk_cell BK159.out 0).trans rfl; have hcz26_1 : w25.cell? ⟨gb159, 1, none⟩ = some (.slice A0_1 l0_1.length c0_1) := (blk_cell BK159.out 1).trans rfl; have hfz26_0 := blk_frozen BK159.out 0; have hfz26_1 := blk_frozen BK159.out 1; obtain ⟨Ao27, co27, eo27⟩ := Kd.R_slice HO171.out; subst eo27) | ((with_reducible refine gate_callee (f := 37) rfl ?_); refine goesL_ (some 33) rfl rfl Try.func37 (by kernel_rfl) rfl #[.agg #[.slice A0_0 l0_0.length c0_0, .slice A0_1 l0_1.length c0_1], .int .i64 a1, .slice Ao27 t169.length co27] rfl (by (try simp only [List.map_toArray, List.map_cons, List.map_nil]); first | done | rfl | (simp only [List.length_drop, List.length_take]; rfl)) ?_; (with_reducible refine (spec_l4Line.calls k1 _ _ l0_0 _ _ l0_1 a1 _ _ t169 t172 _ ?side1 ?side2 ?side3 ?side4 ?side5 ?side6 A21.out).mono ?_); (case side1 => repeat (first | exact (Kd.C_below HR0_0.out HB.out) | (with_reducible refine Kd.C_alloc ?_ _) | (with_reducible refine Kd.C_drewN ?_ _) | (with_reducible refine Kd.C_drew ?_))); (case side2 => exact HC0_0.out); (case side3 => repeat (first | exact (Kd.C_below HR0_1.out HB.out) | (with_reducible refine Kd.C_alloc ?_ _) | (with_reducible refine Kd.C_drewN ?_ _) | (with_reducible refine Kd.C_drew ?_))); (case side4 => exact HC0_1.out); (case side5 => repeat (first | exact (Kd.R_reads' HO171.out).2.2 | (with_reducible refine Kd.C_alloc ?_ _) | (with_reducible refine Kd.C_drewN ?_ _) | (with_reducible refine Kd.C_drew ?_))); (case side6 => exact (Kd.R_reads' HO171.out).2.1); rintro e w28 ⟨v173, rfl, ho0, hb⟩; refine ⟨_, rfl, ?_⟩; have n0_ := Aside0.mk (Kd.R_elder' (by (with_reducible repeat (first | apply Kd.R_alloc | apply Kd.R_drewN | apply Kd.R_drew)); exact HO_169000.out) (Kd.R_base ho0) hb); have n1_ := Aside0.mk (Kd.R_elder' (by (with_reducible repeat (first | apply Kd.R_alloc | apply Kd.R_drewN | apply Kd.R_drew)); exact HO_169001.out) (Kd.R_base ho0) hb); have n2_ := Aside0.mk (Kd.R_elder' (by (with_reducible repeat (first | apply Kd.R_alloc | apply Kd.R_drewN | apply Kd.R_drew)); exact HO171.out) (Kd.R_base ho0) hb); have n3_ := Aside0.mk (Kd.R_lower (Kd.R_new' (Kd.R_new' (Kd.R_new' ho0 (Kd.R_lt (by (with_reducible repeat (first | apply Kd.R_alloc | apply Kd.R_drewN | apply Kd.R_drew)); exact HO_169000.out))) (Kd.R_lt (by (with_reducible repeat (first | apply Kd.R_alloc | apply Kd.R_drewN | apply Kd.R_drew)); exact HO_169001.out))) (Kd.R_lt (by (with_reducible repeat (first | apply Kd.R_alloc | apply Kd.R_drewN | apply Kd.R_drew)); exact HO171.out))) (below_size (by repeat (first | (with_reducible first | exact HB.out | apply below_alloc | apply pw_below_drewN | apply below_drew1 | refine below_set ?_ GE159.out | refine below_set ?_ GE160.out | refine below_set ?_ GE168.out) | exact HB.out)))); have n4_ := Aside0.mk (blk_below (g := gb159) (o := .cells #[.slice A0_0 l0_0.length c0_0, .slice A0_1 l0_1.length c0_1] 26 (0, 0)) (by (with_reducible repeat (first | refine blk_drewN ?_ _ | refine blk_drew ?_ | refine blk_alloc ?_ _)); exact BK159.out) hb); have n5_ := Aside0.mk (blk_below (g := gb160) (o := .cells #[.slice none 0 0, .slice none 0 0] 26 (0, 0)) (by (with_reducible repeat (first | refine blk_drewN ?_ _ | refine blk_drew ?_ | refine blk_alloc ?_ _)); exact BK160.out) hb); have n6_ := Aside0.mk (blk_below (g := gb168) (o := .cells #[u169000, u169001] 26 (0, 0)) (by (with_reducible repeat (first | refine blk_drewN ?_ _ | refine blk_drew ?_ | refine blk_alloc ?_ _)); exact BK168.out) hb); have n7_ := Aside0.mk (below_step (by repeat (first | (with_reducible first | exact HB.out | apply below_alloc | apply pw_below_drewN | apply below_drew1 | refine below_set ?_ GE159.out | refine below_set ?_ GE160.out | refine below_set ?_ GE168.out) | exact HB.out)) hb); clear HO_169000; clear HO_169001; clear HO171; clear BK159; clear BK160; clear BK168; clear HB; have HO_169000 := n0_; have HO_169001 := n1_; have HO171 := n2_; have HO174 := n3_; have BK159 := n4_; have BK160 := n5_; have BK168 := n6_; have HB := n7_; clear n0_ n1_ n2_ n3_ n4_ n5_ n6_ n7_; (try clear hb); (try clear hb2); (try clear hk); (try clear hi); (try clear ho0)))
          go_loopg [9, 10] k1 (fun kq v9 v10 w' => ∃ (x9_2 : Int) (x10_2 : Int), v9 = .int .i64 x9_2 ∧ v10 = .int .i64 x10_2 ∧ Aside0 (spec_Scan.l1 kq a1 x6_1 t169 t172 x9_2 x10_2 l0_0 l0_1 x169000_1 x169001_1 = some (r1, r2)) ∧ Aside0 (kq ≤ k1) ∧ Aside0 (Kd.R (Kd.int .i64) 3 w' w.heap.size (fun k_ => some k_ ≠ (v173 : Value).ownBlock ∧ some k_ ≠ (u169000 : Value).ownBlock ∧ some k_ ≠ (u169001 : Value).ownBlock) (.slice Ao27 t169.length co27) t169) ∧ Aside0 (Kd.R (Kd.int .i64) 3 w' w.heap.size (fun k_ => some k_ ≠ ((.slice Ao27 t169.length co27) : Value).ownBlock ∧ some k_ ≠ (u169000 : Value).ownBlock ∧ some k_ ≠ (u169001 : Value).ownBlock) v173 t172) ∧ Aside0 (Kd.R (Kd.int .i64) 3 w' w.heap.size (fun k_ => some k_ ≠ ((.slice Ao27 t169.length co27) : Value).ownBlock ∧ some k_ ≠ (v173 : Value).ownBlock ∧ some k_ ≠ (u169001 : Value).ownBlock) u169000 x169000_1) ∧ Aside0 (Kd.R (Kd.int .i64) 3 w' w.heap.size (fun k_ => some k_ ≠ ((.slice Ao27 t169.length co27) : Value).ownBlock ∧ some k_ ≠ (v173 : Value).ownBlock ∧ some k_ ≠ (u169000 : Value).ownBlock) u169001 x169001_1) ∧ Aside0 (w'.heap[gb159]? = some (.cells #[(.slice A0_0 l0_0.length c0_0), (.slice A0_1 l0_1.length c0_1)] 26 (0, 0))) ∧ Aside0 (w'.heap[gb160]? = some (.cells #[(.slice none 0 0), (.slice none 0 0)] 26 (0, 0))) ∧ Aside0 (w'.heap[gb168]? = some (.cells #[u169000, u169001] 26 (0, 0))) ∧ Aside0 (Below w.heap.size w w'))
          case atStart => exact ⟨(0), (0), (by first | rfl | (simp; done) | (simp [*]; done)), (by first | rfl | (simp; done) | (simp [*]; done)), H', ⟨Nat.le_refl _⟩, ⟨by (with_reducible repeat (first | apply Kd.R_alloc | apply Kd.R_drewN | apply Kd.R_drew)); exact Kd.R_mono HO171.out (fun _ hk => ⟨hk.2, ⟨hk.1.1.2, hk.1.2⟩⟩)⟩, ⟨by (with_reducible repeat (first | apply Kd.R_alloc | apply Kd.R_drewN | apply Kd.R_drew)); exact Kd.R_mono HO174.out (fun _ hk => ⟨hk.2, ⟨hk.1.1.2, hk.1.2⟩⟩)⟩, ⟨by (with_reducible repeat (first | apply Kd.R_alloc | apply Kd.R_drewN | apply Kd.R_drew)); exact Kd.R_mono HO_169000.out (fun _ hk => ⟨hk.1.2, ⟨hk.2, hk.1.1⟩⟩)⟩, ⟨by (with_reducible repeat (first | apply Kd.R_alloc | apply Kd.R_drewN | apply Kd.R_drew)); exact Kd.R_mono HO_169001.out (fun _ hk => ⟨hk.1.2, ⟨hk.2, hk.1.1⟩⟩)⟩, ⟨by (with_reducible repeat (first | refine blk_drewN ?_ _ | refine blk_drew ?_ | refine blk_alloc ?_ _)); exact BK159.out⟩, ⟨by (with_reducible repeat (first | refine blk_drewN ?_ _ | refine blk_drew ?_ | refine blk_alloc ?_ _)); exact BK160.out⟩, ⟨by (with_reducible repeat (first | refine blk_drewN ?_ _ | refine blk_drew ?_ | refine blk_alloc ?_ _)); exact BK168.out⟩, ⟨by repeat (first | (with_reducible first | exact HB.out | apply below_alloc | apply pw_below_drewN | apply below_drew1 | refine below_set ?_ GE159.out | refine below_set ?_ GE160.out | refine below_set ?_ GE168.out) | exact HB.out)⟩⟩
          case round =>
            clear H'
            try clear c1
            try clear c2
            try clear p2
            try clear c3
            try clear c4
            try clear c8
            try clear c10
            try clear c15
            try clear c16
            try clear c19
            try clear c19b0
            try clear c22
            try clear c23
            try clear hcz11_0
            try clear hcz11_1
            try clear hcz17_0
            try clear hcz17_1
            try clear hcz24_0
            try clear hcz24_1
            try clear hcz26_0
            try clear hcz26_1
            try clear hcz9_0
            try clear hcz9_1
            try clear hfz11_0
            try clear hfz11_1
            try clear hfz17_0
            try clear hfz17_1
            try clear hfz24_0
            try clear hfz24_1
            try clear hfz26_0
            try clear hfz26_1
            try clear hfz9_0
            try clear hfz9_1
            try clear p2
            obtain ⟨x9_2, x10_2, rfl, rfl, HA, HK2, HO_7, HO_8, HO_169000, HO_169001, BK159, BK160, BK168, HB⟩ := hrel
            cases gk with
            | zero => exact absurd HA.out (by simp [spec_Scan.l1])
            | succ k2 =>
              have H := HA.out
              clear HA
              simp only [spec_Scan.l1] at H
              by_cases c29 : 0 ≤ a1
              · rw [if_pos c29] at H
                have c29b0 : decide (0 ≤ a1) = true := decide_eq_true c29
                clear c29
                by_cases c30 : a1 < (t169.length : Int)
                · rw [if_pos c30] at H
                  have c30b0 : decide (a1 < (t169.length : Int)) = true := decide_eq_true c30
                  clear c30
                  by_cases c31 : x10_2 ≤ (rd t169 a1)
                  · rw [if_pos c31] at H
                    have c31b0 : decide (x10_2 ≤ (rd t169 a1)) = true := decide_eq_true c31
                    clear c31
                    by_cases c32 : 0 ≤ x10_2
                    · rw [if_pos c32] at H
                      have c32b0 : decide (0 ≤ x10_2) = true := decide_eq_true c32
                      clear c32
                      by_cases c33 : x10_2 < (t172.length : Int)
                      · rw [if_pos c33] at H
                        have c33b0 : decide (x10_2 < (t172.length : Int)) = true := decide_eq_true c33
                        clear c33
                        replace H := Option.bind_eq_some_iff.mp H
                        obtain ⟨t177, A340, H⟩ := H
                        replace H : (spec_Scan.l1 k2 a1 x6_1 t169 t172 t177 (wrap64 (x10_2 + 1)) l0_0 l0_1 x169000_1 x169001_1) = some (r1, r2) := H
                        have A34 := Aside0.mk A340
                        clear A340
                        have H' := Aside0.mk H
                        clear H
                        have p175 : 0 ≤ (a1 : Int) := of_decide_eq_true (by first | (with_reducible assumption) | assumption)
                        have q175 : a1 < (t169.length : Int) := of_decide_eq_true (by first | (with_reducible assumption) | assumption)
                        obtain ⟨ad175, e175, hx175_0⟩ := Kd.at_int (Kd.R_reads' HO_7.out).2.2 a1 p175 q175
                        cases e175
                        replace p175 := eq_true p175
                        replace q175 := eq_true q175
                        obtain ⟨Ao35, co35, eo35⟩ := Kd.R_slice HO_8.out
                        subst eo35
                        have p176 : 0 ≤ (x10_2 : Int) := of_decide_eq_true (by first | (with_reducible assumption) | assumption)
                        have q176 : x10_2 < (t172.length : Int) := of_decide_eq_true (by first | (with_reducible assumption) | assumption)
                        obtain ⟨ad176, e176, hx176_0⟩ := Kd.at_int (Kd.R_reads' HO_8.out).2.2 x10_2 p176 q176
                        cases e176
                        replace p176 := eq_true p176
                        replace q176 := eq_true q176
                        go_wp2_with (first | ((with_reducible refine gate_callee (f := 38) rfl ?_); refine goesL_ (some 47) rfl rfl Try.func38 (by kernel_rfl) rfl #[.int .i64 x9_2, .int .i64 (rd t172 x10_2)] rfl (by (try simp only [List.map_toArray, List.map_cons, List.map_nil]); first | done | rfl | (simp only [List.length_drop, List.length_take]; rfl)) ?_; (with_reducible refine (spec_Plus.calls x9_2 (rd t172 x10_2) t177 _ A34.out).mono ?_); rintro e w' ⟨rfl, ⟨nd, rfl⟩⟩; refine ⟨_, rfl, ?_⟩))
                        go_roundg k2
                        case measure => have := HK1.out; have := HK2.out; omega
                        case rel => exact ⟨(t177), (wrap64 (x10_2 + 1)), (by first | rfl | (simp; done) | (simp [*]; done)), (by first | rfl | (simp; done) | (simp [*]; done)), H', ⟨by have := HK1.out; have := HK2.out; omega⟩, ⟨by (with_reducible repeat (first | apply Kd.R_alloc | apply Kd.R_drewN | apply Kd.R_drew)); exact HO_7.out⟩, ⟨by (with_reducible repeat (first | apply Kd.R_alloc | apply Kd.R_drewN | apply Kd.R_drew)); exact HO_8.out⟩, ⟨by (with_reducible repeat (first | apply Kd.R_alloc | apply Kd.R_drewN | apply Kd.R_drew)); exact HO_169000.out⟩, ⟨by (with_reducible repeat (first | apply Kd.R_alloc | apply Kd.R_drewN | apply Kd.R_drew)); exact HO_169001.out⟩, ⟨by (with_reducible repeat (first | refine blk_drewN ?_ _ | refine blk_drew ?_ | refine blk_alloc ?_ _)); exact BK159.out⟩, ⟨by (with_reducible repeat (first | refine blk_drewN ?_ _ | refine blk_drew ?_ | refine blk_alloc ?_ _)); exact BK160.out⟩, ⟨by (with_reducible repeat (first | refine blk_drewN ?_ _ | refine blk_drew ?_ | refine blk_alloc ?_ _)); exact BK168.out⟩, ⟨by repeat (first | (with_reducible first | exact HB.out | apply below_alloc | apply pw_below_drewN | apply below_drew1 | refine below_set ?_ GE159.out | refine below_set ?_ GE160.out | refine below_set ?_ GE168.out) | exact HB.out)⟩⟩
                      · rw [if_neg c33] at H
                        exact absurd H (by simp)
                    · rw [if_neg c32] at H
                      exact absurd H (by simp)
                  · rw [if_neg c31] at H
                    have c31b0 : decide (x10_2 ≤ (rd t169 a1)) = false := decide_eq_false c31
                    clear c31
                    by_cases c36 : 0 ≤ x6_1
                    · rw [if_pos c36] at H
                      have c36b0 : decide (0 ≤ x6_1) = true := decide_eq_true c36
                      clear c36
                      by_cases c37 : x6_1 < (x169001_1.length : Int)
                      · rw [if_pos c37] at H
                        have c37b0 : decide (x6_1 < (x169001_1.length : Int)) = true := decide_eq_true c37
                        clear c37
                        obtain ⟨y178, hy178⟩ : ∃ y_ : List Int, y_ = (x169001_1.set (x6_1 : Int).toNat x9_2) := ⟨_, rfl⟩
                        replace H : (spec_Scan.l0 k2 a1 (wrap64 (x6_1 + 1)) l0_0 l0_1 x169000_1 y178) = some (r1, r2) := by first | (rw [hy178]; with_reducible exact H) | (have H2_ := (Option.bind_some _ _).symm.trans H; rw [hy178]; with_reducible exact H2_) | (have H2_ := (Option.bind_some _ _).symm.trans H; with_reducible exact H2_) | with_reducible exact H | (rw [hy178]; exact H) | exact H
                        have Ny178 := Aside0.mk hy178
                        clear hy178
                        have H' := Aside0.mk H
                        clear H
                        have p175 : 0 ≤ (a1 : Int) := of_decide_eq_true (by first | (with_reducible assumption) | assumption)
                        have q175 : a1 < (t169.length : Int) := of_decide_eq_true (by first | (with_reducible assumption) | assumption)
                        obtain ⟨ad175, e175, hx175_0⟩ := Kd.at_int (Kd.R_reads' HO_7.out).2.2 a1 p175 q175
                        cases e175
                        replace p175 := eq_true p175
                        replace q175 := eq_true q175
                        have hnb39 := NB168_159.out
                        have hnc39 := NB159_168.out
                        have hnb40 := NB168_160.out
                        have hnc40 := NB160_168.out
                        have hcz41_0 : wr.cell? ⟨gb168, 0, none⟩ = some (u169000) := (blk_cell BK168.out 0).trans rfl
                        have hcz41_1 : wr.cell? ⟨gb168, 1, none⟩ = some (u169001) := (blk_cell BK168.out 1).trans rfl
                        have hfz41_0 := blk_frozen BK168.out 0
                        have hfz41_1 := blk_frozen BK168.out 1
                        have p38 : 0 ≤ (x6_1 : Int) := of_decide_eq_true (by first | (with_reducible assumption) | assumption)
                        have q38 : (x6_1 : Int) < ((x169001_1.length : Int) : Int) := of_decide_eq_true (by first | (with_reducible assumption) | assumption)
                        obtain ⟨go38, co38, eo38, gb38, gl38, cl38, HG38⟩ := Kd.R_form HO_169001.out (by omega)
                        (first | cases eo38 | (injection eo38 with ea_ en_ ec_; (first | subst ea_ | (injection ea_ with ea_; subst ea_)); subst ec_; clear en_))
                        have GB38 := Aside0.mk gb38
                        have GG38 := Aside0.mk HG38
                        clear gb38 gl38 HG38
                        obtain ⟨hx38_0, hf38_0⟩ := Kd.R_celln 0 HO_169001.out (x6_1 : Int) p38 q38
                        replace p38 := eq_true p38
                        replace q38 := eq_true q38
                        have HP42 := Kd.R_putg HO_169001.out (x6_1 : Int) x9_2
                        go_wp2_with (first | ((with_reducible refine gate_store (t := 3) (p := 52) rfl ?_); refine store_event (t := 3) (p := 52) (v := ?vo_w43) (w1 := (wr.setCell ⟨go38, (x6_1 : Int).toNat, none⟩ (.int .i64 x9_2))) ?hg ?ho ?hn ?hr ?_; (case ho => rfl); (case hg => rfl); (case hn => rfl); (case hr => first | (go_simp; done) | (go_simp; rfl)); intro w43 hw; have hg : wr.grownBy w43 (some go38) := (by rw [hw]; exact HP42.2); have hp_ : Kd.R (Kd.int .i64) 3 w43 w.heap.size (fun k_ => some k_ ≠ (.slice (some ad175) t169.length co27 : Value).ownBlock ∧ some k_ ≠ (v173 : Value).ownBlock ∧ some k_ ≠ (u169000 : Value).ownBlock) (.slice (some ⟨go38, 0, none⟩) x169001_1.length co38) y178 := (by rw [hw, Ny178.out]; exact HP42.1); clear HP42; have n0_ := Aside0.mk (Kd.R_after (v := (.slice (some ⟨go38, 0, none⟩) x169001_1.length co38)) (v1 := (.slice (some ⟨go38, 0, none⟩) x169001_1.length co38)) (ok := (fun k_ => some k_ ≠ (v173 : Value).ownBlock ∧ some k_ ≠ (u169000 : Value).ownBlock)) (by (with_reducible repeat (first | apply Kd.R_alloc | apply Kd.R_drewN | apply Kd.R_drew)); exact Kd.R_mono HO_7.out (fun _ hk => ⟨⟨hk.1, hk.2.1⟩, hk.2.2⟩)) hg (.inl rfl)); have n1_ := Aside0.mk (Kd.R_after (v := (.slice (some ⟨go38, 0, none⟩) x169001_1.length co38)) (v1 := (.slice (some ⟨go38, 0, none⟩) x169001_1.length co38)) (ok := (fun k_ => some k_ ≠ (.slice (some ad175) t169.length co27 : Value).ownBlock ∧ some k_ ≠ (u169000 : Value).ownBlock)) (by (with_reducible repeat (first | apply Kd.R_alloc | apply Kd.R_drewN | apply Kd.R_drew)); exact Kd.R_mono HO_8.out (fun _ hk => ⟨⟨hk.1, hk.2.1⟩, hk.2.2⟩)) hg (.inl rfl)); have n2_ := Aside0.mk (Kd.R_after (v := (.slice (some ⟨go38, 0, none⟩) x169001_1.length co38)) (v1 := (.slice (some ⟨go38, 0, none⟩) x169001_1.length co38)) (ok := (fun k_ => some k_ ≠ (.slice (some ad175) t169.length co27 : Value).ownBlock ∧ some k_ ≠ (v173 : Value).ownBlock)) (by (with_reducible repeat (first | apply Kd.R_alloc | apply Kd.R_drewN | apply Kd.R_drew)); exact Kd.R_mono HO_169000.out (fun _ hk => ⟨⟨hk.1, hk.2.1⟩, hk.2.2⟩)) hg (.inl rfl)); have n3_ := Aside0.mk (hp_); have n4_ := Aside0.mk (blk_grown (g := gb159) (o := .cells #[.slice A0_0 l0_0.length c0_0, .slice A0_1 l0_1.length c0_1] 26 (0, 0)) (by (with_reducible repeat (first | refine blk_drewN ?_ _ | refine blk_drew ?_ | refine blk_alloc ?_ _)); exact BK159.out) hg (Kd.R_ne HO_169001.out BK159.out (by decide))); have n5_ := Aside0.mk (blk_grown (g := gb160) (o := .cells #[.slice none 0 0, .slice none 0 0] 26 (0, 0)) (by (with_reducible repeat (first | refine blk_drewN ?_ _ | refine blk_drew ?_ | refine blk_alloc ?_ _)); exact BK160.out) hg (Kd.R_ne HO_169001.out BK160.out (by decide))); have n6_ := Aside0.mk (blk_grown (g := gb168) (o := .cells #[u169000, .slice (some ⟨go38, 0, none⟩) x169001_1.length co38] 26 (0, 0)) (by (with_reducible repeat (first | refine blk_drewN ?_ _ | refine blk_drew ?_ | refine blk_alloc ?_ _)); exact BK168.out) hg (Kd.R_ne HO_169001.out BK168.out (by decide))); have n7_ := Aside0.mk ((by rw [hw]; exact below_set (HB.out) GB38.out : Below w.heap.size w w43)); clear HO_7; clear HO_8; clear HO_169000; clear HO_169001; clear BK159; clear BK160; clear BK168; clear HB; have HO_7 := n0_; have HO_8 := n1_; have HO_169000 := n2_; have HO_169001 := n3_; have BK159 := n4_; have BK160 := n5_; have BK168 := n6_; have HB := n7_; clear n0_ n1_ n2_ n3_ n4_ n5_ n6_ n7_; clear hg hw hp_))
                        go_roundg k2
                        case measure => have := HK1.out; have := HK2.out; omega
                        case rel => exact ⟨(wrap64 (x6_1 + 1)), (x169000_1), (y178), (u169000), (.slice (some ⟨go38, 0, none⟩) x169001_1.length co38), (by first | rfl | (simp; done) | (simp [*]; done)), H', ⟨by have := HK1.out; have := HK2.out; omega⟩, ⟨by (with_reducible repeat (first | apply Kd.R_alloc | apply Kd.R_drewN | apply Kd.R_drew)); exact Kd.R_mono HO_169000.out (fun _ hk => hk.2)⟩, ⟨by (with_reducible repeat (first | apply Kd.R_alloc | apply Kd.R_drewN | apply Kd.R_drew)); exact Kd.R_mono HO_169001.out (fun _ hk => hk.2.2)⟩, ⟨by (with_reducible repeat (first | refine blk_drewN ?_ _ | refine blk_drew ?_ | refine blk_alloc ?_ _)); exact BK159.out⟩, ⟨by (with_reducible repeat (first | refine blk_drewN ?_ _ | refine blk_drew ?_ | refine blk_alloc ?_ _)); exact BK160.out⟩, ⟨by (with_reducible repeat (first | refine blk_drewN ?_ _ | refine blk_drew ?_ | refine blk_alloc ?_ _)); exact BK168.out⟩, ⟨by repeat (first | (with_reducible first | exact HB.out | apply below_alloc | apply pw_below_drewN | apply below_drew1 | refine below_set ?_ GE159.out | refine below_set ?_ GE160.out | refine below_set ?_ GE168.out) | exact HB.out)⟩⟩
                      · rw [if_neg c37] at H
                        exact absurd H (by simp)
                    · rw [if_neg c36] at H
                      exact absurd H (by simp)
                · rw [if_neg c30] at H
                  exact absurd H (by simp)
              · rw [if_neg c29] at H
                exact absurd H (by simp)
        · rw [if_neg c19] at H
          have c19b0 : decide (x6_1 < (l0_1.length : Int)) = false := decide_eq_false c19
          clear c19
          simp only [Option.some.injEq, Prod.mk.injEq] at H
          obtain ⟨rfl, rfl⟩ := H
          have hnb44 := NB159_160.out
          have hnc44 := NB160_159.out
          have hnb45 := NB159_168.out
          have hnc45 := NB168_159.out
          have hcz46_0 : wr.cell? ⟨gb159, 0, none⟩ = some (.slice A0_0 l0_0.length c0_0) := (blk_cell BK159.out 0).trans rfl
          have hcz46_1 : wr.cell? ⟨gb159, 1, none⟩ = some (.slice A0_1 l0_1.length c0_1) := (blk_cell BK159.out 1).trans rfl
          have hfz46_0 := blk_frozen BK159.out 0
          have hfz46_1 := blk_frozen BK159.out 1
          have hnb47 := NB168_160.out
          have hnc47 := NB160_168.out
          have hcz48_0 : wr.cell? ⟨gb168, 0, none⟩ = some (u169000) := (blk_cell BK168.out 0).trans rfl
          have hcz48_1 : wr.cell? ⟨gb168, 1, none⟩ = some (u169001) := (blk_cell BK168.out 1).trans rfl
          have hfz48_0 := blk_frozen BK168.out 0
          have hfz48_1 := blk_frozen BK168.out 1
          obtain ⟨Ao49, co49, eo49⟩ := Kd.R_slice HO_169000.out
          subst eo49
          have hcz50_0 : wr.cell? ⟨gb160, 0, none⟩ = some (.slice none 0 0) := (blk_cell BK160.out 0).trans rfl
          have hcz50_1 : wr.cell? ⟨gb160, 1, none⟩ = some (.slice none 0 0) := (blk_cell BK160.out 1).trans rfl
          have hfz50_0 := blk_frozen BK160.out 0
          have hfz50_1 := blk_frozen BK160.out 1
          obtain ⟨Ao51, co51, eo51⟩ := Kd.R_slice HO_169001.out
          subst eo51
          go_wp2
          refine bodyPost_ret (results_cell_row rfl _ _ gb160 26 #[.slice Ao49 x169000_1.length co49, .slice Ao51 x169001_1.length co51] (0, 0) _ rfl (by (with_reducible repeat (first | refine blk_drewN ?_ _ | refine blk_drew ?_ | refine blk_alloc ?_ _)); refine blk_put (cs := #[.slice Ao49 x169000_1.length co49, .slice none 0 0]) ?_ 1 _ rfl; (with_reducible repeat (first | refine blk_drewN ?_ _ | refine blk_drew ?_ | refine blk_alloc ?_ _)); refine blk_put (cs := #[.slice none 0 0, .slice none 0 0]) ?_ 0 _ rfl; (with_reducible repeat (first | refine blk_drewN ?_ _ | refine blk_drew ?_ | refine blk_alloc ?_ _)); exact BK160.out) Try.underlying26 rfl (by kernel_rfl)) rfl ?_
          exact ⟨_, _, by first | rfl | (simp [errW_none, errW_some] <;> rfl) | (simp [*, errW_none, errW_some] <;> rfl), by (with_reducible repeat (first | apply Kd.R_alloc | apply Kd.R_drewN | apply Kd.R_drew)); exact Kd.R_mono (Kd.R_far (p := ⟨gb160, 1, none⟩) (Kd.R_far (p := ⟨gb160, 0, none⟩) (Kd.R_types HO_169000.out BK160.out (by decide)) (fun _ hk => hk.2) (.slice Ao49 x169000_1.length co49)) (fun _ hk => hk.2) (.slice Ao51 x169001_1.length co51)) (fun _ hk => hk.1), by (with_reducible repeat (first | apply Kd.R_alloc | apply Kd.R_drewN | apply Kd.R_drew)); exact Kd.R_mono (Kd.R_far (p := ⟨gb160, 1, none⟩) (Kd.R_far (p := ⟨gb160, 0, none⟩) (Kd.R_types HO_169001.out BK160.out (by decide)) (fun _ hk => hk.2) (.slice Ao49 x169000_1.length co49)) (fun _ hk => hk.2) (.slice Ao51 x169001_1.length co51)) (fun _ hk => hk.1), by repeat (first | (with_reducible first | exact HB.out | apply below_alloc | apply pw_below_drewN | apply below_drew1 | refine below_set ?_ GE159.out | refine below_set ?_ GE160.out | refine below_set ?_ GE168.out) | exact HB.out)⟩
  · replace c4 := Bool.eq_false_iff.mpr c4
    subst c4
    have H1 : (some (([] : List Int), ([] : List Int))) = some (r1, r2) := by rw [if_neg (show ¬ (false = true) by decide)] at H; exact H
    clear H
    have H := H1
    clear H1
    simp only [Option.some.injEq, Prod.mk.injEq] at H
    obtain ⟨rfl, rfl⟩ := H
    go_enter Try.func10, Try.ntmps10
    go_wp2_with (first | ((with_reducible refine gate_dst (N := 2) rfl ?_); refine box_event ?hg (N := 2) ?hd (cs := #[.slice A0_0 l0_0.length c0_0, .slice A0_1 l0_1.length c0_1]) (t := 26) ?hr ?_; (case hd => rfl); (case hg => rfl); (case hr => first | (go_simp; done) | (go_simp; rfl)); intro gb159 hg w52 hbox hb; have n0_ := Aside0.mk (below_step (by repeat (first | (with_reducible first | exact HB.out | apply below_alloc | apply pw_below_drewN | apply below_drew1) | exact HB.out)) hb); have n1_ := Aside0.mk (hbox); have n2_ := Aside0.mk ((by rw [hg]; exact (below_size (by repeat (first | (with_reducible first | exact HB.out | apply below_alloc | apply pw_below_drewN | apply below_drew1) | exact HB.out))) : w.heap.size ≤ gb159)); have n3_ := Aside0.mk ((by rw [hg]; exact (below_size (by repeat (first | (with_reducible first | exact HB.out | apply below_alloc | apply pw_below_drewN | apply below_drew1) | exact HB.out))) : w.heap.size ≤ gb159)); clear HB; have HB := n0_; have BK159 := n1_; have GW159 := n2_; have GE159 := n3_; clear n0_ n1_ n2_ n3_; clear hb hbox hg) | ((with_reducible refine gate_dst (N := 4) rfl ?_); refine box_event ?hg (N := 4) ?hd (cs := #[.slice none 0 0, .slice none 0 0]) (t := 26) ?hr ?_; (case hd => rfl); (case hg => rfl); (case hr => first | (go_simp; done) | (go_simp; rfl)); intro gb160 hg w53 hbox hb; have n0_ := Aside0.mk (blk_below (g := gb159) (o := .cells #[.slice A0_0 l0_0.length c0_0, .slice A0_1 l0_1.length c0_1] 26 (0, 0)) (by (with_reducible repeat (first | refine blk_drewN ?_ _ | refine blk_drew ?_ | refine blk_alloc ?_ _)); exact BK159.out) hb); have n1_ := Aside0.mk (below_step (by repeat (first | (with_reducible first | exact HB.out | apply below_alloc | apply pw_below_drewN | apply below_drew1 | refine below_set ?_ GE159.out) | exact HB.out)) hb); have n2_ := Aside0.mk (hbox); have n3_ := Aside0.mk ((by rw [hg]; exact (below_size (by repeat (first | (with_reducible first | exact HB.out | apply below_alloc | apply pw_below_drewN | apply below_drew1 | refine below_set ?_ GE159.out) | exact HB.out))) : w.heap.size ≤ gb160)); have n4_ := Aside0.mk ((by rw [hg]; exact (below_size (by repeat (first | (with_reducible first | exact HB.out | apply below_alloc | apply pw_below_drewN | apply below_drew1 | refine below_set ?_ GE159.out) | exact HB.out))) : w.heap.size ≤ gb160)); have n5_ := Aside0.mk ((by rw [hg]; exact Nat.ne_of_lt (blk_lt (g := gb159) (o := .cells #[.slice A0_0 l0_0.length c0_0, .slice A0_1 l0_1.length c0_1] 26 (0, 0)) (by (with_reducible repeat (first | refine blk_drewN ?_ _ | refine blk_drew ?_ | refine blk_alloc ?_ _)); exact BK159.out)) : gb159 ≠ gb160)); have n6_ := Aside0.mk ((by rw [hg]; exact Nat.ne_of_gt (blk_lt (g := gb159) (o := .cells #[.slice A0_0 l0_0.length c0_0, .slice A0_1 l0_1.length c0_1] 26 (0, 0)) (by (with_reducible repeat (first | refine blk_drewN ?_ _ | refine blk_drew ?_ | refine blk_alloc ?_ _)); exact BK159.out)) : gb160 ≠ gb159)); clear BK159; clear HB; have BK159 := n0_; have HB := n1_; have BK160 := n2_; have GW160 := n3_; have GE160 := n4_; have NB159_160 := n5_; have NB160_159 := n6_; clear n0_ n1_ n2_ n3_ n4_ n5_ n6_; clear hb hbox hg; have hnb54 := NB159_160.out; have hnc54 := NB160_159.out; have hcz55_0 : w53.cell? ⟨gb159, 0, none⟩ = some (.slice A0_0 l0_0.length c0_0) := (blk_cell BK159.out 0).trans rfl; have hcz55_1 : w53.cell? ⟨gb159, 1, none⟩ = some (.slice A0_1 l0_1.length c0_1) := (blk_cell BK159.out 1).trans rfl; have hfz55_0 := blk_frozen BK159.out 0; have hfz55_1 := blk_frozen BK159.out 1) | ((with_reducible refine gate_callee (f := 34) rfl ?_); refine goesL_ (some 13) rfl rfl Try.func34 (by kernel_rfl) rfl #[.agg #[.slice A0_0 l0_0.length c0_0, .slice A0_1 l0_1.length c0_1], .int .i64 a1] rfl (by (try simp only [List.map_toArray, List.map_cons, List.map_nil]); first | done | rfl | (simp only [List.length_drop, List.length_take]; rfl)) ?_; (with_reducible refine (spec_l4Axis.calls k _ _ l0_0 _ _ l0_1 a1 false _ ?side1 ?side2 ?side3 ?side4 A3.out).mono ?_); (case side1 => repeat (first | exact (Kd.C_below HR0_0.out HB.out) | (with_reducible refine Kd.C_alloc ?_ _) | (with_reducible refine Kd.C_drewN ?_ _) | (with_reducible refine Kd.C_drew ?_))); (case side2 => exact HC0_0.out); (case side3 => repeat (first | exact (Kd.C_below HR0_1.out HB.out) | (with_reducible refine Kd.C_alloc ?_ _) | (with_reducible refine Kd.C_drewN ?_ _) | (with_reducible refine Kd.C_drew ?_))); (case side4 => exact HC0_1.out); rintro e w56 ⟨rfl, hb⟩; refine ⟨_, rfl, ?_⟩; have n0_ := Aside0.mk (blk_below (g := gb159) (o := .cells #[.slice A0_0 l0_0.length c0_0, .slice A0_1 l0_1.length c0_1] 26 (0, 0)) (by (with_reducible repeat (first | refine blk_drewN ?_ _ | refine blk_drew ?_ | refine blk_alloc ?_ _)); exact BK159.out) hb); have n1_ := Aside0.mk (blk_below (g := gb160) (o := .cells #[.slice none 0 0, .slice none 0 0] 26 (0, 0)) (by (with_reducible repeat (first | refine blk_drewN ?_ _ | refine blk_drew ?_ | refine blk_alloc ?_ _)); exact BK160.out) hb); have n2_ := Aside0.mk (below_step (by repeat (first | (with_reducible first | exact HB.out | apply below_alloc | apply pw_below_drewN | apply below_drew1 | refine below_set ?_ GE159.out | refine below_set ?_ GE160.out) | exact HB.out)) hb); clear BK159; clear BK160; clear HB; have BK159 := n0_; have BK160 := n1_; have HB := n2_; clear n0_ n1_ n2_; (try clear hb); (try clear hb2); (try clear hk); (try clear hi); have hcz57_0 : w56.cell? ⟨gb160, 0, none⟩ = some (.slice none 0 0) := (blk_cell BK160.out 0).trans rfl; have hcz57_1 : w56.cell? ⟨gb160, 1, none⟩ = some (.slice none 0 0) := (blk_cell BK160.out 1).trans rfl; have hfz57_0 := blk_frozen BK160.out 0; have hfz57_1 := blk_frozen BK160.out 1))
    refine bodyPost_ret (results_cell_row rfl _ _ gb160 26 #[.slice none 0 0, .slice none 0 0] (0, 0) _ rfl (by (with_reducible repeat (first | refine blk_drewN ?_ _ | refine blk_drew ?_ | refine blk_alloc ?_ _)); refine blk_put (cs := #[.slice none 0 0, .slice none 0 0]) ?_ 1 _ rfl; (with_reducible repeat (first | refine blk_drewN ?_ _ | refine blk_drew ?_ | refine blk_alloc ?_ _)); refine blk_put (cs := #[.slice none 0 0, .slice none 0 0]) ?_ 0 _ rfl; (with_reducible repeat (first | refine blk_drewN ?_ _ | refine blk_drew ?_ | refine blk_alloc ?_ _)); exact BK160.out) Try.underlying26 rfl (by kernel_rfl)) rfl ?_
    exact ⟨_, _, by first | rfl | (simp [errW_none, errW_some] <;> rfl) | (simp [*, errW_none, errW_some] <;> rfl), by first | exact Kd.R_nil _ _ _ _ _ | exact Kd.N_nil _ _ _ _ _ | exact Kd.V_nil _ _ _ _ _ | exact Kd.Q_nil _ _ _ _ _ | exact Kd.S_nil _ _ _ _ _, by first | exact Kd.R_nil _ _ _ _ _ | exact Kd.N_nil _ _ _ _ _ | exact Kd.V_nil _ _ _ _ _ | exact Kd.Q_nil _ _ _ _ _ | exact Kd.S_nil _ _ _ _ _, by repeat (first | (with_reducible first | exact HB.out | apply below_alloc | apply pw_below_drewN | apply below_drew1 | refine below_set ?_ GE159.out | refine below_set ?_ GE160.out) | exact HB.out)⟩

/-! ### laws_toIntS: function 23 -/
def laws_toIntS.l0 : Nat → List Int → List Int → Int → Option (List Int)
  | 0, _, _, _ => none
  | k + 1, x0, x3, x4 => if x4 < (x0.length : Int) then (if 0 ≤ x4 then (if x4 < (x3.length : Int) then (laws_toIntS.l0 k x0 (x3.set (x4 : Int).toNat (rd x0 x4)) (wrap64 (x4 + 1))) else (none)) else (none)) else (some x3)
def laws_toIntS.f (k : Nat) (l0 : List Int) : Option (List Int) := if 0 ≤ (l0.length : Int) then (if ((l0.length : Int) : Int).toNat ≤ 35184372088832 then (laws_toIntS.l0 k l0 (List.replicate ((l0.length : Int) : Int).toNat 0) 0) else (none)) else (none)
theorem laws_toIntS.mono_l : ∀ k, (∀ y0 y1 y2, LeO (laws_toIntS.l0 k y0 y1 y2) (laws_toIntS.l0 (k + 1) y0 y1 y2))
  | 0 => fun _ _ _ r h => by simp [laws_toIntS.l0] at h
  | k + 1 => by
    have ih0 := laws_toIntS.mono_l k
    · intro y0 y1 y2
      unfold laws_toIntS.l0
      repeat' first
      | (with_reducible exact ih0 _ _ _)
      | (with_reducible exact LeO.refl _)
      | (with_reducible exact LeO.none _)
      | (with_reducible refine LeO.ite ?_ ?_)
      | (with_reducible refine LeO.bind ?_ (fun _ => ?_))
      | exact ih0 _ _ _
      | exact LeO.none _
      | refine LeO.ite ?_ ?_
      | refine LeO.bind ?_ (fun _ => ?_)
theorem laws_toIntS.mono : ∀ a0 k, LeO (laws_toIntS.f k a0) (laws_toIntS.f (k + 1) a0) := by
  intro a0 k
  have ih0 := laws_toIntS.mono_l k
  unfold laws_toIntS.f
  repeat' first
      | (with_reducible exact ih0 _ _ _)
      | (with_reducible exact LeO.refl _)
      | (with_reducible exact LeO.none _)
      | (with_reducible refine LeO.ite ?_ ?_)
      | (with_reducible refine LeO.bind ?_ (fun _ => ?_))
      | exact ih0 _ _ _
      | exact LeO.none _
      | refine LeO.ite ?_ ?_
      | refine LeO.bind ?_ (fun _ => ?_)
set_option maxHeartbeats 8000000 in
set_option maxRecDepth 100000 in
theorem laws_toIntS.calls (k : Nat) (A0 : Option Addr) (c0 : Nat) (l0 : List Int) (r : List Int) (w : World) (hr0 : Kd.C (Kd.int .i64) w A0 l0.length l0) (hc0 : l0.length ≤ c0) (h : laws_toIntS.f k l0 = some r) :
    Calls Try.prog 23 #[.slice A0 l0.length c0] w fun e w' => ∃ v0_ : Value, e = .returned (v0_) ∧ Kd.R (Kd.int .i64) 3 w' w.heap.size (fun _ => True) v0_ r ∧ Below w.heap.size w w' := by
  have HR0 := Aside0.mk hr0
  have HC0 := Aside0.mk hc0
  clear hr0 hc0
  have HB := Aside0.mk (Below.refl w.heap.size w)
  have H : (if 0 ≤ (l0.length : Int) then (if ((l0.length : Int) : Int).toNat ≤ 35184372088832 then (laws_toIntS.l0 k l0 (List.replicate ((l0.length : Int) : Int).toNat 0) 0) else (none)) else (none)) = some r := h
  clear h
  by_cases c2 : 0 ≤ (l0.length : Int)
  · rw [if_pos c2] at H
    have c2b0 := eq_true c2
    have c2b1 : decide (0 ≤ (l0.length : Int)) = true := decide_eq_true c2
    clear c2
    by_cases c3 : ((l0.length : Int) : Int).toNat ≤ 35184372088832
    · rw [if_pos c3] at H
      have c3b0 := eq_true c3
      have c3b1 : decide (((l0.length : Int) : Int).toNat ≤ 35184372088832) = true := decide_eq_true c3
      clear c3
      obtain ⟨y179, hy179⟩ : ∃ y_ : List Int, y_ = (List.replicate ((l0.length : Int) : Int).toNat 0) := ⟨_, rfl⟩
      replace H : (laws_toIntS.l0 k l0 y179 0) = some r := by first | (rw [hy179]; with_reducible exact H) | (have H2_ := (Option.bind_some _ _).symm.trans H; rw [hy179]; with_reducible exact H2_) | (have H2_ := (Option.bind_some _ _).symm.trans H; with_reducible exact H2_) | with_reducible exact H | (rw [hy179]; exact H) | exact H
      have Ny179 := Aside0.mk hy179
      clear hy179
      have H' := Aside0.mk H
      clear H
      go_enter Try.func23, Try.ntmps23
      go_wp2_with (first | ((with_reducible refine gate_dst (N := 7) rfl ?_); refine Kd.R_make (Kd.int .i64) _ 3 rfl (N := 7) rfl 22 _ _ rfl (l0.length : Int) rfl rfl Try.underlying22 (.int .i64 0) 8 info3 rfl (by decide) (by omega) 0 (ok := fun _ => True) (okp := fun _ => True) rfl (fun _ hk => hk) trivial (of_decide_eq_true (by first | (with_reducible assumption) | assumption)) (Nat.le_trans (Nat.mul_le_mul_right _ (of_decide_eq_true (by first | (with_reducible assumption) | assumption) : (l0.length : Int).toNat ≤ 35184372088832)) (by omega)) (Below.refl _ _) (Nat.le_refl _) ?_; intro v180 w4 ho5 hb hg_ hnew_; clear hg_ hnew_; (first | rw [← Ny179.out] at ho5 | (simp only [Int.reduceToNat] at ho5; rw [← Ny179.out] at ho5)); have n0_ := Aside0.mk (Kd.R_lower ho5 (below_size (by repeat (first | (with_reducible first | exact HB.out | apply below_alloc | apply pw_below_drewN | apply below_drew1) | exact HB.out)))); have n1_ := Aside0.mk (below_step (by repeat (first | (with_reducible first | exact HB.out | apply below_alloc | apply pw_below_drewN | apply below_drew1) | exact HB.out)) hb); clear HB; have HO181 := n0_; have HB := n1_; clear n0_ n1_; clear hb ho5))
      go_loopg [4] k (fun kq v4 w' => ∃ (x3_1 : List Int) (x4_1 : Int), v4 = .int .i64 x4_1 ∧ Aside0 (laws_toIntS.l0 kq l0 x3_1 x4_1 = some r) ∧ Aside0 (kq ≤ k) ∧ Aside0 (Kd.R (Kd.int .i64) 3 w' w.heap.size (fun _ => True) v180 x3_1) ∧ Aside0 (Below w.heap.size w w'))
      case atStart => exact ⟨(y179), (0), (by first | rfl | (simp; done) | (simp [*]; done)), H', ⟨Nat.le_refl _⟩, ⟨by (with_reducible repeat (first | apply Kd.R_alloc | apply Kd.R_drewN | apply Kd.R_drew)); exact HO181.out⟩, ⟨by repeat (first | (with_reducible first | exact HB.out | apply below_alloc | apply pw_below_drewN | apply below_drew1) | exact HB.out)⟩⟩
      case round =>
        clear H'
        try clear c2
        try clear c2b0
        try clear c2b1
        try clear p2
        try clear c3
        try clear c3b0
        try clear c3b1
        obtain ⟨x3_1, x4_1, rfl, HA, HK1, HO_3, HB⟩ := hrel
        cases gk with
        | zero => exact absurd HA.out (by simp [laws_toIntS.l0])
        | succ k1 =>
          have H := HA.out
          clear HA
          simp only [laws_toIntS.l0] at H
          by_cases c6 : x4_1 < (l0.length : Int)
          · rw [if_pos c6] at H
            have c6b0 : decide (x4_1 < (l0.length : Int)) = true := decide_eq_true c6
            clear c6
            by_cases c7 : 0 ≤ x4_1
            · rw [if_pos c7] at H
              have c7b0 : decide (0 ≤ x4_1) = true := decide_eq_true c7
              clear c7
              by_cases c8 : x4_1 < (x3_1.length : Int)
              · rw [if_pos c8] at H
                have c8b0 : decide (x4_1 < (x3_1.length : Int)) = true := decide_eq_true c8
                clear c8
                obtain ⟨y183, hy183⟩ : ∃ y_ : List Int, y_ = (x3_1.set (x4_1 : Int).toNat (rd l0 x4_1)) := ⟨_, rfl⟩
                replace H : (laws_toIntS.l0 k1 l0 y183 (wrap64 (x4_1 + 1))) = some r := by first | (rw [hy183]; with_reducible exact H) | (have H2_ := (Option.bind_some _ _).symm.trans H; rw [hy183]; with_reducible exact H2_) | (have H2_ := (Option.bind_some _ _).symm.trans H; with_reducible exact H2_) | with_reducible exact H | (rw [hy183]; exact H) | exact H
                have Ny183 := Aside0.mk hy183
                clear hy183
                have H' := Aside0.mk H
                clear H
                have p182 : 0 ≤ (x4_1 : Int) := of_decide_eq_true (by first | (with_reducible assumption) | assumption)
                have q182 : x4_1 < (l0.length : Int) := of_decide_eq_true (by first | (with_reducible assumption) | assumption)
                obtain ⟨ad182, e182, hx182_0⟩ := Kd.at_int HR0.out x4_1 p182 q182
                cases e182
                replace hx182_0 := (HB.out.cell (World.block_lt_of_cell? w _ hx182_0)).trans hx182_0
                replace p182 := eq_true p182
                replace q182 := eq_true q182
                have p9 : 0 ≤ (x4_1 : Int) := of_decide_eq_true (by first | (with_reducible assumption) | assumption)
                have q9 : (x4_1 : Int) < ((x3_1.length : Int) : Int) := of_decide_eq_true (by first | (with_reducible assumption) | assumption)
                obtain ⟨go9, co9, eo9, gb9, gl9, cl9, HG9⟩ := Kd.R_form HO_3.out (by omega)
                (first | cases eo9 | (injection eo9 with ea_ en_ ec_; (first | subst ea_ | (injection ea_ with ea_; subst ea_)); subst ec_; clear en_))
                have GB9 := Aside0.mk gb9
                have GG9 := Aside0.mk HG9
                clear gb9 gl9 HG9
                obtain ⟨hx9_0, hf9_0⟩ := Kd.R_celln 0 HO_3.out (x4_1 : Int) p9 q9
                replace p9 := eq_true p9
                replace q9 := eq_true q9
                have HP10 := Kd.R_putg HO_3.out (x4_1 : Int) (rd l0 x4_1)
                go_wp2_with (first | ((with_reducible refine gate_store (t := 3) (p := 20) rfl ?_); refine store_event (t := 3) (p := 20) (v := ?vo_w11) (w1 := (wr.setCell ⟨go9, (x4_1 : Int).toNat, none⟩ (.int .i64 (rd l0 x4_1)))) ?hg ?ho ?hn ?hr ?_; (case ho => rfl); (case hg => rfl); (case hn => rfl); (case hr => first | (go_simp; done) | (go_simp; rfl)); intro w11 hw; have hg : wr.grownBy w11 (some go9) := (by rw [hw]; exact HP10.2); have hp_ : Kd.R (Kd.int .i64) 3 w11 w.heap.size (fun _ => True) (.slice (some ⟨go9, 0, none⟩) x3_1.length co9) y183 := (by rw [hw, Ny183.out]; exact HP10.1); clear HP10; have n0_ := Aside0.mk (hp_); have n1_ := Aside0.mk ((by rw [hw]; exact below_set (HB.out) GB9.out : Below w.heap.size w w11)); clear HO_3; clear HB; have HO_3 := n0_; have HB := n1_; clear n0_ n1_; clear hg hw hp_))
                go_roundg k1
                case measure => have := HK1.out; omega
                case rel => exact ⟨(y183), (wrap64 (x4_1 + 1)), (by first | rfl | (simp; done) | (simp [*]; done)), H', ⟨by have := HK1.out; omega⟩, ⟨by (with_reducible repeat (first | apply Kd.R_alloc | apply Kd.R_drewN | apply Kd.R_drew)); exact HO_3.out⟩, ⟨by repeat (first | (with_reducible first | exact HB.out | apply below_alloc | apply pw_below_drewN | apply below_drew1) | exact HB.out)⟩⟩
              · rw [if_neg c8] at H
                exact absurd H (by simp)
            · rw [if_neg c7] at H
              exact absurd H (by simp)
          · rw [if_neg c6] at H
            have c6b0 : decide (x4_1 < (l0.length : Int)) = false := decide_eq_false c6
            clear c6
            obtain rfl := Option.some.inj H
            go_wp2
            go_ret
            exact ⟨_, by first | rfl | (simp [errW_none, errW_some] <;> rfl) | (simp [*, errW_none, errW_some] <;> rfl), by (with_reducible repeat (first | apply Kd.R_alloc | apply Kd.R_drewN | apply Kd.R_drew)); exact HO_3.out, by repeat (first | (with_reducible first | exact HB.out | apply below_alloc | apply pw_below_drewN | apply below_drew1) | exact HB.out)⟩
    · rw [if_neg c3] at H
      exact absurd H (by simp)
  · rw [if_neg c2] at H
    exact absurd H (by simp)

/-! ### laws_toTensor: function 11 -/
def laws_toTensor.f (k : Nat) (l0_0 : List Int) (l0_1 : List Int) : Option (List Int × List Int) := (laws_toIntS.f k l0_0).bind fun t187 => ((laws_toIntS.f k l0_1).bind fun t190 => (some (t187, t190)))
theorem laws_toTensor.mono : ∀ a0 a1 k, LeO (laws_toTensor.f k a0 a1) (laws_toTensor.f (k + 1) a0 a1) := by
  intro a0 a1 k
  unfold laws_toTensor.f
  repeat' first
      | (with_reducible exact laws_toIntS.mono _ _)
      | (with_reducible exact LeO.refl _)
      | (with_reducible exact LeO.none _)
      | (with_reducible refine LeO.ite ?_ ?_)
      | (with_reducible refine LeO.bind ?_ (fun _ => ?_))
      | exact laws_toIntS.mono _ _
      | exact LeO.none _
      | refine LeO.ite ?_ ?_
      | refine LeO.bind ?_ (fun _ => ?_)
set_option maxHeartbeats 8000000 in
set_option maxRecDepth 100000 in
theorem laws_toTensor.calls (k : Nat) (A0_0 : Option Addr) (c0_0 : Nat) (l0_0 : List Int) (A0_1 : Option Addr) (c0_1 : Nat) (l0_1 : List Int) (r1 : List Int) (r2 : List Int) (w : World) (hr0_0 : Kd.C (Kd.int .i64) w A0_0 l0_0.length l0_0) (hc0_0 : l0_0.length ≤ c0_0) (hr0_1 : Kd.C (Kd.int .i64) w A0_1 l0_1.length l0_1) (hc0_1 : l0_1.length ≤ c0_1) (h : laws_toTensor.f k l0_0 l0_1 = some (r1, r2)) :
    Calls Try.prog 11 #[.agg #[.slice A0_0 l0_0.length c0_0, .slice A0_1 l0_1.length c0_1]] w fun e w' => ∃ v0_ v1_ : Value, e = .returned (.agg #[v0_, v1_]) ∧ Kd.R (Kd.int .i64) 3 w' w.heap.size (fun k_ => some k_ ≠ (v1_ : Value).ownBlock) v0_ r1 ∧ Kd.R (Kd.int .i64) 3 w' w.heap.size (fun k_ => some k_ ≠ (v0_ : Value).ownBlock) v1_ r2 ∧ Below w.heap.size w w' := by
  have hu24 := Try.underlying24
  have hu26 := Try.underlying26
  have HR0_0 := Aside0.mk hr0_0
  have HC0_0 := Aside0.mk hc0_0
  clear hr0_0 hc0_0
  have HR0_1 := Aside0.mk hr0_1
  have HC0_1 := Aside0.mk hc0_1
  clear hr0_1 hc0_1
  have HB := Aside0.mk (Below.refl w.heap.size w)
  have H : ((laws_toIntS.f k l0_0).bind fun t187 => ((laws_toIntS.f k l0_1).bind fun t190 => (some (t187, t190)))) = some (r1, r2) := h
  clear h
  replace H := Option.bind_eq_some_iff.mp H
  obtain ⟨t187, A20, H⟩ := H
  replace H : ((laws_toIntS.f k l0_1).bind fun t190 => (some (t187, t190))) = some (r1, r2) := H
  have A2 := Aside0.mk A20
  clear A20
  replace H := Option.bind_eq_some_iff.mp H
  obtain ⟨t190, A30, H⟩ := H
  replace H : (some (t187, t190)) = some (r1, r2) := H
  have A3 := Aside0.mk A30
  clear A30
  simp only [Option.some.injEq, Prod.mk.injEq] at H
  obtain ⟨rfl, rfl⟩ := H
  go_enter Try.func11, Try.ntmps11
  go_wp2_with (first | ((with_reducible refine gate_dst (N := 1) rfl ?_); refine box_event ?hg (N := 1) ?hd (cs := #[.slice A0_0 l0_0.length c0_0, .slice A0_1 l0_1.length c0_1]) (t := 24) ?hr ?_; (case hd => rfl); (case hg => rfl); (case hr => first | (go_simp; done) | (go_simp; rfl)); intro gb184 hg w4 hbox hb; have n0_ := Aside0.mk (below_step (by repeat (first | (with_reducible first | exact HB.out | apply below_alloc | apply pw_below_drewN | apply below_drew1) | exact HB.out)) hb); have n1_ := Aside0.mk (hbox); have n2_ := Aside0.mk ((by rw [hg]; exact (below_size (by repeat (first | (with_reducible first | exact HB.out | apply below_alloc | apply pw_below_drewN | apply below_drew1) | exact HB.out))) : w.heap.size ≤ gb184)); have n3_ := Aside0.mk ((by rw [hg]; exact (below_size (by repeat (first | (with_reducible first | exact HB.out | apply below_alloc | apply pw_below_drewN | apply below_drew1) | exact HB.out))) : w.heap.size ≤ gb184)); clear HB; have HB := n0_; have BK184 := n1_; have GW184 := n2_; have GE184 := n3_; clear n0_ n1_ n2_ n3_; clear hb hbox hg) | ((with_reducible refine gate_dst (N := 2) rfl ?_); refine box_event ?hg (N := 2) ?hd (cs := #[.slice none 0 0, .slice none 0 0]) (t := 26) ?hr ?_; (case hd => rfl); (case hg => rfl); (case hr => first | (go_simp; done) | (go_simp; rfl)); intro gb185 hg w5 hbox hb; have n0_ := Aside0.mk (blk_below (g := gb184) (o := .cells #[.slice A0_0 l0_0.length c0_0, .slice A0_1 l0_1.length c0_1] 24 (0, 0)) (by (with_reducible repeat (first | refine blk_drewN ?_ _ | refine blk_drew ?_ | refine blk_alloc ?_ _)); exact BK184.out) hb); have n1_ := Aside0.mk (below_step (by repeat (first | (with_reducible first | exact HB.out | apply below_alloc | apply pw_below_drewN | apply below_drew1 | refine below_set ?_ GE184.out) | exact HB.out)) hb); have n2_ := Aside0.mk (hbox); have n3_ := Aside0.mk ((by rw [hg]; exact (below_size (by repeat (first | (with_reducible first | exact HB.out | apply below_alloc | apply pw_below_drewN | apply below_drew1 | refine below_set ?_ GE184.out) | exact HB.out))) : w.heap.size ≤ gb185)); have n4_ := Aside0.mk ((by rw [hg]; exact (below_size (by repeat (first | (with_reducible first | exact HB.out | apply below_alloc | apply pw_below_drewN | apply below_drew1 | refine below_set ?_ GE184.out) | exact HB.out))) : w.heap.size ≤ gb185)); have n5_ := Aside0.mk ((by rw [hg]; exact Nat.ne_of_lt (blk_lt (g := gb184) (o := .cells #[.slice A0_0 l0_0.length c0_0, .slice A0_1 l0_1.length c0_1] 24 (0, 0)) (by (with_reducible repeat (first | refine blk_drewN ?_ _ | refine blk_drew ?_ | refine blk_alloc ?_ _)); exact BK184.out)) : gb184 ≠ gb185)); have n6_ := Aside0.mk ((by rw [hg]; exact Nat.ne_of_gt (blk_lt (g := gb184) (o := .cells #[.slice A0_0 l0_0.length c0_0, .slice A0_1 l0_1.length c0_1] 24 (0, 0)) (by (with_reducible repeat (first | refine blk_drewN ?_ _ | refine blk_drew ?_ | refine blk_alloc ?_ _)); exact BK184.out)) : gb185 ≠ gb184)); clear BK184; clear HB; have BK184 := n0_; have HB := n1_; have BK185 := n2_; have GW185 := n3_; have GE185 := n4_; have NB184_185 := n5_; have NB185_184 := n6_; clear n0_ n1_ n2_ n3_ n4_ n5_ n6_; clear hb hbox hg) | ((with_reducible refine gate_dst (N := 3) rfl ?_); refine box_event ?hg (N := 3) ?hd (cs := #[.slice none 0 0, .slice none 0 0]) (t := 26) ?hr ?_; (case hd => rfl); (case hg => rfl); (case hr => first | (go_simp; done) | (go_simp; rfl)); intro gb186 hg w6 hbox hb; have n0_ := Aside0.mk (blk_below (g := gb184) (o := .cells #[.slice A0_0 l0_0.length c0_0, .slice A0_1 l0_1.length c0_1] 24 (0, 0)) (by (with_reducible repeat (first | refine blk_drewN ?_ _ | refine blk_drew ?_ | refine blk_alloc ?_ _)); exact BK184.out) hb); have n1_ := Aside0.mk (blk_below (g := gb185) (o := .cells #[.slice none 0 0, .slice none 0 0] 26 (0, 0)) (by (with_reducible repeat (first | refine blk_drewN ?_ _ | refine blk_drew ?_ | refine blk_alloc ?_ _)); exact BK185.out) hb); have n2_ := Aside0.mk (below_step (by repeat (first | (with_reducible first | exact HB.out | apply below_alloc | apply pw_below_drewN | apply below_drew1 | refine below_set ?_ GE184.out | refine below_set ?_ GE185.out) | exact HB.out)) hb); have n3_ := Aside0.mk (hbox); have n4_ := Aside0.mk ((by rw [hg]; exact (below_size (by repeat (first | (with_reducible first | exact HB.out | apply below_alloc | apply pw_below_drewN | apply below_drew1 | refine below_set ?_ GE184.out | refine below_set ?_ GE185.out) | exact HB.out))) : w.heap.size ≤ gb186)); have n5_ := Aside0.mk ((by rw [hg]; exact (below_size (by repeat (first | (with_reducible first | exact HB.out | apply below_alloc | apply pw_below_drewN | apply below_drew1 | refine below_set ?_ GE184.out | refine below_set ?_ GE185.out) | exact HB.out))) : w.heap.size ≤ gb186)); have n6_ := Aside0.mk ((by rw [hg]; exact Nat.ne_of_lt (blk_lt (g := gb184) (o := .cells #[.slice A0_0 l0_0.length c0_0, .slice A0_1 l0_1.length c0_1] 24 (0, 0)) (by (with_reducible repeat (first | refine blk_drewN ?_ _ | refine blk_drew ?_ | refine blk_alloc ?_ _)); exact BK184.out)) : gb184 ≠ gb186)); have n7_ := Aside0.mk ((by rw [hg]; exact Nat.ne_of_gt (blk_lt (g := gb184) (o := .cells #[.slice A0_0 l0_0.length c0_0, .slice A0_1 l0_1.length c0_1] 24 (0, 0)) (by (with_reducible repeat (first | refine blk_drewN ?_ _ | refine blk_drew ?_ | refine blk_alloc ?_ _)); exact BK184.out)) : gb186 ≠ gb184)); have n8_ := Aside0.mk ((by rw [hg]; exact Nat.ne_of_lt (blk_lt (g := gb185) (o := .cells #[.slice none 0 0, .slice none 0 0] 26 (0, 0)) (by (with_reducible repeat (first | refine blk_drewN ?_ _ | refine blk_drew ?_ | refine blk_alloc ?_ _)); exact BK185.out)) : gb185 ≠ gb186)); have n9_ := Aside0.mk ((by rw [hg]; exact Nat.ne_of_gt (blk_lt (g := gb185) (o := .cells #[.slice none 0 0, .slice none 0 0] 26 (0, 0)) (by (with_reducible repeat (first | refine blk_drewN ?_ _ | refine blk_drew ?_ | refine blk_alloc ?_ _)); exact BK185.out)) : gb186 ≠ gb185)); clear BK184; clear BK185; clear HB; have BK184 := n0_; have BK185 := n1_; have HB := n2_; have BK186 := n3_; have GW186 := n4_; have GE186 := n5_; have NB184_186 := n6_; have NB186_184 := n7_; have NB185_186 := n8_; have NB186_185 := n9_; clear n0_ n1_ n2_ n3_ n4_ n5_ n6_ n7_ n8_ n9_; clear hb hbox hg; have hnb7 := NB184_185.out; have hnc7 := NB185_184.out; have hnb8 := NB184_186.out; have hnc8 := NB186_184.out; have hcz9_0 : w6.cell? ⟨gb184, 0, none⟩ = some (.slice A0_0 l0_0.length c0_0) := (blk_cell BK184.out 0).trans rfl; have hcz9_1 : w6.cell? ⟨gb184, 1, none⟩ = some (.slice A0_1 l0_1.length c0_1) := (blk_cell BK184.out 1).trans rfl; have hfz9_0 := blk_frozen BK184.out 0; have hfz9_1 := blk_frozen BK184.out 1) | ((with_reducible refine gate_callee (f := 23) rfl ?_); refine goesL_ (some 6) rfl rfl Try.func23 (by kernel_rfl) rfl #[.slice A0_0 l0_0.length c0_0] rfl (by (try simp only [List.map_toArray, List.map_cons, List.map_nil]); first | done | rfl | (simp only [List.length_drop, List.length_take]; rfl)) ?_; (with_reducible refine (laws_toIntS.calls k _ _ l0_0 t187 _ ?side1 ?side2 A2.out).mono ?_); (case side1 => repeat (first | exact (Kd.C_below HR0_0.out HB.out) | (with_reducible refine Kd.C_alloc ?_ _) | (with_reducible refine Kd.C_drewN ?_ _) | (with_reducible refine Kd.C_drew ?_))); (case side2 => exact HC0_0.out); rintro e w10 ⟨v188, rfl, ho0, hb⟩; refine ⟨_, rfl, ?_⟩; have n0_ := Aside0.mk (Kd.R_lower ho0 (below_size (by repeat (first | (with_reducible first | exact HB.out | apply below_alloc | apply pw_below_drewN | apply below_drew1 | refine below_set ?_ GE184.out | refine below_set ?_ GE185.out | refine below_set ?_ GE186.out) | exact HB.out)))); have n1_ := Aside0.mk (blk_below (g := gb184) (o := .cells #[.slice A0_0 l0_0.length c0_0, .slice A0_1 l0_1.length c0_1] 24 (0, 0)) (by (with_reducible repeat (first | refine blk_drewN ?_ _ | refine blk_drew ?_ | refine blk_alloc ?_ _)); exact BK184.out) hb); have n2_ := Aside0.mk (blk_below (g := gb185) (o := .cells #[.slice none 0 0, .slice none 0 0] 26 (0, 0)) (by (with_reducible repeat (first | refine blk_drewN ?_ _ | refine blk_drew ?_ | refine blk_alloc ?_ _)); exact BK185.out) hb); have n3_ := Aside0.mk (blk_below (g := gb186) (o := .cells #[.slice none 0 0, .slice none 0 0] 26 (0, 0)) (by (with_reducible repeat (first | refine blk_drewN ?_ _ | refine blk_drew ?_ | refine blk_alloc ?_ _)); exact BK186.out) hb); have n4_ := Aside0.mk (below_step (by repeat (first | (with_reducible first | exact HB.out | apply below_alloc | apply pw_below_drewN | apply below_drew1 | refine below_set ?_ GE184.out | refine below_set ?_ GE185.out | refine below_set ?_ GE186.out) | exact HB.out)) hb); clear BK184; clear BK185; clear BK186; clear HB; have HO189 := n0_; have BK184 := n1_; have BK185 := n2_; have BK186 := n3_; have HB := n4_; clear n0_ n1_ n2_ n3_ n4_; (try clear hb); (try clear hb2); (try clear hk); (try clear hi); (try clear ho0); obtain ⟨Ao11, co11, eo11⟩ := Kd.R_slice HO189.out; subst eo11; have hnb12 := NB186_185.out; have hnc12 := NB185_186.out; have hcz13_0 : w10.cell? ⟨gb186, 0, none⟩ = some (.slice none 0 0) := (blk_cell BK186.out 0).trans rfl; have hcz13_1 : w10.cell? ⟨gb186, 1, none⟩ = some (.slice none 0 0) := (blk_cell BK186.out 1).trans rfl; have hfz13_0 := blk_frozen BK186.out 0; have hfz13_1 := blk_frozen BK186.out 1; have hcz14_0 : w10.cell? ⟨gb184, 0, none⟩ = some (.slice A0_0 l0_0.length c0_0) := (blk_cell BK184.out 0).trans rfl; have hcz14_1 : w10.cell? ⟨gb184, 1, none⟩ = some (.slice A0_1 l0_1.length c0_1) := (blk_cell BK184.out 1).trans rfl; have hfz14_0 := blk_frozen BK184.out 0; have hfz14_1 := blk_frozen BK184.out 1) | ((with_reducible refine gate_callee (f := 23) rfl ?_); refine goesL_ (some 10) rfl rfl Try.func23 (by kernel_rfl) rfl #[.slice A0_1 l0_1.length c0_1] rfl (by (try simp only [List.map_toArray, List.map_cons, List.map_nil]); first | done | rfl | (simp only [List.length_drop, List.length_take]; rfl)) ?_; (with_reducible refine (laws_toIntS.calls k _ _ l0_1 t190 _ ?side1 ?side2 A3.out).mono ?_); (case side1 => exact Kd.C_below HR0_1.out (by repeat (first | (with_reducible first | exact HB.out | apply below_alloc | apply pw_below_drewN | apply below_drew1 | refine below_set ?_ GE184.out | refine below_set ?_ GE185.out | refine below_set ?_ GE186.out) | exact HB.out))); (case side2 => exact HC0_1.out); rintro e w15 ⟨v191, rfl, ho0, hb⟩; refine ⟨_, rfl, ?_⟩; have n0_ := Aside0.mk (Kd.R_elder' (by (with_reducible repeat (first | apply Kd.R_alloc | apply Kd.R_drewN | apply Kd.R_drew)); exact (Kd.R_mono (Kd.R_far (p := ⟨gb186, 0, none⟩) (Kd.R_types HO189.out BK186.out (by decide)) (fun _ hk => hk.2) (.slice Ao11 t187.length co11)) (fun _ h_ => h_.1))) (Kd.R_base ho0) hb); have n1_ := Aside0.mk (Kd.R_lower (Kd.R_new' ho0 (Kd.R_lt (by (with_reducible repeat (first | apply Kd.R_alloc | apply Kd.R_drewN | apply Kd.R_drew)); exact (Kd.R_mono (Kd.R_far (p := ⟨gb186, 0, none⟩) (Kd.R_types HO189.out BK186.out (by decide)) (fun _ hk => hk.2) (.slice Ao11 t187.length co11)) (fun _ h_ => h_.1))))) (below_size (by repeat (first | (with_reducible first | exact HB.out | apply below_alloc | apply pw_below_drewN | apply below_drew1 | refine below_set ?_ GE184.out | refine below_set ?_ GE185.out | refine below_set ?_ GE186.out) | exact HB.out)))); have n2_ := Aside0.mk (blk_below (g := gb184) (o := .cells #[.slice A0_0 l0_0.length c0_0, .slice A0_1 l0_1.length c0_1] 24 (0, 0)) (by (with_reducible repeat (first | refine blk_drewN ?_ _ | refine blk_drew ?_ | refine blk_alloc ?_ _)); refine blk_far ?_ NB184_186.out _; (with_reducible repeat (first | refine blk_drewN ?_ _ | refine blk_drew ?_ | refine blk_alloc ?_ _)); exact BK184.out) hb); have n3_ := Aside0.mk (blk_below (g := gb185) (o := .cells #[.slice none 0 0, .slice none 0 0] 26 (0, 0)) (by (with_reducible repeat (first | refine blk_drewN ?_ _ | refine blk_drew ?_ | refine blk_alloc ?_ _)); refine blk_far ?_ NB185_186.out _; (with_reducible repeat (first | refine blk_drewN ?_ _ | refine blk_drew ?_ | refine blk_alloc ?_ _)); exact BK185.out) hb); have n4_ := Aside0.mk (blk_below (g := gb186) (o := .cells #[.slice Ao11 t187.length co11, .slice none 0 0] 26 (0, 0)) (by (with_reducible repeat (first | refine blk_drewN ?_ _ | refine blk_drew ?_ | refine blk_alloc ?_ _)); refine blk_put (cs := #[.slice none 0 0, .slice none 0 0]) ?_ 0 _ rfl; (with_reducible repeat (first | refine blk_drewN ?_ _ | refine blk_drew ?_ | refine blk_alloc ?_ _)); exact BK186.out) hb); have n5_ := Aside0.mk (below_step (by repeat (first | (with_reducible first | exact HB.out | apply below_alloc | apply pw_below_drewN | apply below_drew1 | refine below_set ?_ GE184.out | refine below_set ?_ GE185.out | refine below_set ?_ GE186.out) | exact HB.out)) hb); clear HO189; clear BK184; clear BK185; clear BK186; clear HB; have HO189 := n0_; have HO192 := n1_; have BK184 := n2_; have BK185 := n3_; have BK186 := n4_; have HB := n5_; clear n0_ n1_ n2_ n3_ n4_ n5_; (try clear hb); (try clear hb2); (try clear hk); (try clear hi); (try clear ho0); obtain ⟨Ao16, co16, eo16⟩ := Kd.R_slice HO192.out; subst eo16; have hcz17_0 : w15.cell? ⟨gb186, 0, none⟩ = some (.slice Ao11 t187.length co11) := (blk_cell BK186.out 0).trans rfl; have hcz17_1 : w15.cell? ⟨gb186, 1, none⟩ = some (.slice none 0 0) := (blk_cell BK186.out 1).trans rfl; have hfz17_0 := blk_frozen BK186.out 0; have hfz17_1 := blk_frozen BK186.out 1; have hcz18_0 : w15.cell? ⟨gb185, 0, none⟩ = some (.slice none 0 0) := (blk_cell BK185.out 0).trans rfl; have hcz18_1 : w15.cell? ⟨gb185, 1, none⟩ = some (.slice none 0 0) := (blk_cell BK185.out 1).trans rfl; have hfz18_0 := blk_frozen BK185.out 0; have hfz18_1 := blk_frozen BK185.out 1))
  refine bodyPost_ret (results_cell_row rfl _ _ gb185 26 #[.slice Ao11 t187.length co11, .slice Ao16 t190.length co16] (0, 0) _ rfl (by (with_reducible repeat (first | refine blk_drewN ?_ _ | refine blk_drew ?_ | refine blk_alloc ?_ _)); refine blk_put (cs := #[.slice Ao11 t187.length co11, .slice none 0 0]) ?_ 1 _ rfl; (with_reducible repeat (first | refine blk_drewN ?_ _ | refine blk_drew ?_ | refine blk_alloc ?_ _)); refine blk_put (cs := #[.slice none 0 0, .slice none 0 0]) ?_ 0 _ rfl; (with_reducible repeat (first | refine blk_drewN ?_ _ | refine blk_drew ?_ | refine blk_alloc ?_ _)); refine blk_far ?_ NB185_186.out _; (with_reducible repeat (first | refine blk_drewN ?_ _ | refine blk_drew ?_ | refine blk_alloc ?_ _)); exact BK185.out) Try.underlying26 rfl (by kernel_rfl)) rfl ?_
  exact ⟨_, _, by first | rfl | (simp [errW_none, errW_some] <;> rfl) | (simp [*, errW_none, errW_some] <;> rfl), by (with_reducible repeat (first | apply Kd.R_alloc | apply Kd.R_drewN | apply Kd.R_drew)); exact Kd.R_mono (Kd.R_far (p := ⟨gb185, 1, none⟩) (Kd.R_far (p := ⟨gb185, 0, none⟩) (Kd.R_far (p := ⟨gb186, 1, none⟩) (Kd.R_types (Kd.R_types HO189.out BK186.out (by decide)) BK185.out (by decide)) (fun _ hk => by first | exact hk.1.2 | exact hk.1) (.slice Ao16 t190.length co16)) (fun _ hk => hk.2) (.slice Ao11 t187.length co11)) (fun _ hk => hk.2) (.slice Ao16 t190.length co16)) (fun _ hk => hk.1.1.2), by (with_reducible repeat (first | apply Kd.R_alloc | apply Kd.R_drewN | apply Kd.R_drew)); exact Kd.R_mono (Kd.R_far (p := ⟨gb185, 1, none⟩) (Kd.R_far (p := ⟨gb185, 0, none⟩) (Kd.R_far (p := ⟨gb186, 1, none⟩) (Kd.R_types (Kd.R_types HO192.out BK186.out (by decide)) BK185.out (by decide)) (fun _ hk => by first | exact hk.1.2 | exact hk.1) (.slice Ao16 t190.length co16)) (fun _ hk => hk.2) (.slice Ao11 t187.length co11)) (fun _ hk => hk.2) (.slice Ao16 t190.length co16)) (fun _ hk => hk.1.1.2), by repeat (first | (with_reducible first | exact HB.out | apply below_alloc | apply pw_below_drewN | apply below_drew1 | refine below_set ?_ GE184.out | refine below_set ?_ GE185.out | refine below_set ?_ GE186.out) | exact HB.out)⟩

/-! ### impl_Mod: function 99 -/
def impl_Mod.f (a0 : Int) : Option (Int) := if (Int.tmod a0 2147483647) < 0 then (some (wrap64 ((Int.tmod a0 2147483647) + 2147483647))) else (some (Int.tmod a0 2147483647))
set_option maxHeartbeats 8000000 in
set_option maxRecDepth 100000 in
theorem impl_Mod.calls (a0 : Int) (r : Int) (w : World) (h : impl_Mod.f a0 = some r) :
    Calls Try.prog 99 #[.int .i64 a0] w fun e w' => e = .returned (.int .i64 r) ∧ Drawn0 w w' := by
  have H : (if (Int.tmod a0 2147483647) < 0 then (some (wrap64 ((Int.tmod a0 2147483647) + 2147483647))) else (some (Int.tmod a0 2147483647))) = some r := h
  clear h
  by_cases c2 : (Int.tmod a0 2147483647) < 0
  · rw [if_pos c2] at H
    have c2b0 : decide ((Int.tmod a0 2147483647) < 0) = true := decide_eq_true c2
    clear c2
    obtain rfl := Option.some.inj H
    go_enter Try.func99, Try.ntmps99
    go_wp2
    go_ret
    exact ⟨by first | rfl | (simp; done) | (simp [*]; done), by repeat (first | exact Drawn0.refl _ | apply Drawn0.step)⟩
  · rw [if_neg c2] at H
    have c2b0 : decide ((Int.tmod a0 2147483647) < 0) = false := decide_eq_false c2
    clear c2
    obtain rfl := Option.some.inj H
    go_enter Try.func99, Try.ntmps99
    go_wp2
    go_ret
    exact ⟨by first | rfl | (simp; done) | (simp [*]; done), by repeat (first | exact Drawn0.refl _ | apply Drawn0.step)⟩

/-! ### impl_res: function 81 -/
def impl_res.f (a0 : Int) : Option (Int) := (impl_Mod.f a0).bind fun t193 => (some t193)
set_option maxHeartbeats 8000000 in
set_option maxRecDepth 100000 in
theorem impl_res.calls (a0 : Int) (r : Int) (w : World) (h : impl_res.f a0 = some r) :
    Calls Try.prog 81 #[.int .i64 a0] w fun e w' => e = .returned (.int .i64 r) ∧ Drawn0 w w' := by
  have H : ((impl_Mod.f a0).bind fun t193 => (some t193)) = some r := h
  clear h
  replace H := Option.bind_eq_some_iff.mp H
  obtain ⟨t193, A20, H⟩ := H
  replace H : (some t193) = some r := H
  have A2 := Aside0.mk A20
  clear A20
  obtain rfl := Option.some.inj H
  go_enter Try.func81, Try.ntmps81
  go_wp2_with (first | ((with_reducible refine gate_callee (f := 99) rfl ?_); refine goesL_ (some 4) rfl rfl Try.func99 (by kernel_rfl) rfl #[.int .i64 a0] rfl (by (try simp only [List.map_toArray, List.map_cons, List.map_nil]); first | done | rfl | (simp only [List.length_drop, List.length_take]; rfl)) ?_; (with_reducible refine (impl_Mod.calls a0 t193 _ A2.out).mono ?_); rintro e w' ⟨rfl, ⟨nd, rfl⟩⟩; refine ⟨_, rfl, ?_⟩))
  go_ret
  exact ⟨by first | rfl | (simp; done) | (simp [*]; done), by repeat (first | exact Drawn0.refl _ | apply Drawn0.step)⟩

/-! ### impl_residue_plus: function 82 -/
def impl_residue_plus.f (a0 : Int) (a1 : Int) : Option (Int) := if (wrap64 (a0 + a1)) ≥ 2147483647 then (some (wrap64 ((wrap64 (a0 + a1)) - 2147483647))) else (some (wrap64 (a0 + a1)))
set_option maxHeartbeats 8000000 in
set_option maxRecDepth 100000 in
theorem impl_residue_plus.calls (a0 : Int) (a1 : Int) (r : Int) (w : World) (h : impl_residue_plus.f a0 a1 = some r) :
    Calls Try.prog 82 #[.int .i64 a0, .int .i64 a1] w fun e w' => e = .returned (.int .i64 r) ∧ Drawn0 w w' := by
  have H : (if (wrap64 (a0 + a1)) ≥ 2147483647 then (some (wrap64 ((wrap64 (a0 + a1)) - 2147483647))) else (some (wrap64 (a0 + a1)))) = some r := h
  clear h
  by_cases c3 : (wrap64 (a0 + a1)) ≥ 2147483647
  · rw [if_pos c3] at H
    have c3b0 : decide (2147483647 ≤ (wrap64 (a0 + a1))) = true := decide_eq_true c3
    clear c3
    obtain rfl := Option.some.inj H
    go_enter Try.func82, Try.ntmps82
    go_wp2
    go_ret
    exact ⟨by first | rfl | (simp; done) | (simp [*]; done), by repeat (first | exact Drawn0.refl _ | apply Drawn0.step)⟩
  · rw [if_neg c3] at H
    have c3b0 : decide (2147483647 ≤ (wrap64 (a0 + a1))) = false := decide_eq_false c3
    clear c3
    obtain rfl := Option.some.inj H
    go_enter Try.func82, Try.ntmps82
    go_wp2
    go_ret
    exact ⟨by first | rfl | (simp; done) | (simp [*]; done), by repeat (first | exact Drawn0.refl _ | apply Drawn0.step)⟩

/-! ### impl_Plus: function 43 -/
def impl_Plus.f (a0 : Int) (a1 : Int) : Option (Int) := (impl_res.f a0).bind fun t194 => ((impl_res.f a1).bind fun t195 => ((impl_residue_plus.f t194 t195).bind fun t196 => (some t196)))
set_option maxHeartbeats 8000000 in
set_option maxRecDepth 100000 in
theorem impl_Plus.calls (a0 : Int) (a1 : Int) (r : Int) (w : World) (h : impl_Plus.f a0 a1 = some r) :
    Calls Try.prog 43 #[.int .i64 a0, .int .i64 a1] w fun e w' => e = .returned (.int .i64 r) ∧ Drawn0 w w' := by
  have H : ((impl_res.f a0).bind fun t194 => ((impl_res.f a1).bind fun t195 => ((impl_residue_plus.f t194 t195).bind fun t196 => (some t196)))) = some r := h
  clear h
  replace H := Option.bind_eq_some_iff.mp H
  obtain ⟨t194, A30, H⟩ := H
  replace H : ((impl_res.f a1).bind fun t195 => ((impl_residue_plus.f t194 t195).bind fun t196 => (some t196))) = some r := H
  have A3 := Aside0.mk A30
  clear A30
  replace H := Option.bind_eq_some_iff.mp H
  obtain ⟨t195, A40, H⟩ := H
  replace H : ((impl_residue_plus.f t194 t195).bind fun t196 => (some t196)) = some r := H
  have A4 := Aside0.mk A40
  clear A40
  replace H := Option.bind_eq_some_iff.mp H
  obtain ⟨t196, A50, H⟩ := H
  replace H : (some t196) = some r := H
  have A5 := Aside0.mk A50
  clear A50
  obtain rfl := Option.some.inj H
  go_enter Try.func43, Try.ntmps43
  go_wp2_with (first | ((with_reducible refine gate_callee (f := 81) rfl ?_); refine goesL_ (some 6) rfl rfl Try.func81 (by kernel_rfl) rfl #[.int .i64 a0] rfl (by (try simp only [List.map_toArray, List.map_cons, List.map_nil]); first | done | rfl | (simp only [List.length_drop, List.length_take]; rfl)) ?_; (with_reducible refine (impl_res.calls a0 t194 _ A3.out).mono ?_); rintro e w' ⟨rfl, ⟨nd, rfl⟩⟩; refine ⟨_, rfl, ?_⟩) | ((with_reducible refine gate_callee (f := 81) rfl ?_); refine goesL_ (some 8) rfl rfl Try.func81 (by kernel_rfl) rfl #[.int .i64 a1] rfl (by (try simp only [List.map_toArray, List.map_cons, List.map_nil]); first | done | rfl | (simp only [List.length_drop, List.length_take]; rfl)) ?_; (with_reducible refine (impl_res.calls a1 t195 _ A4.out).mono ?_); rintro e w' ⟨rfl, ⟨nd, rfl⟩⟩; refine ⟨_, rfl, ?_⟩) | ((with_reducible refine gate_callee (f := 82) rfl ?_); refine goesL_ (some 9) rfl rfl Try.func82 (by kernel_rfl) rfl #[.int .i64 t194, .int .i64 t195] rfl (by (try simp only [List.map_toArray, List.map_cons, List.map_nil]); first | done | rfl | (simp only [List.length_drop, List.length_take]; rfl)) ?_; (with_reducible refine (impl_residue_plus.calls t194 t195 t196 _ A5.out).mono ?_); rintro e w' ⟨rfl, ⟨nd, rfl⟩⟩; refine ⟨_, rfl, ?_⟩))
  go_ret
  exact ⟨by first | rfl | (simp; done) | (simp [*]; done), by repeat (first | exact Drawn0.refl _ | apply Drawn0.step)⟩

/-! ### impl_Scan_1: function 40 -/
def impl_Scan_1.l0 : Nat → List Int → Int → List Int → Int → Option (List Int)
  | 0, _, _, _, _ => none
  | k + 1, x0, s, x3, x4 => if x4 < (x0.length : Int) then (if 0 ≤ x4 then (if x4 < (x3.length : Int) then ((impl_Plus.f s (rd x0 x4)).bind fun t => (impl_Scan_1.l0 k x0 t (x3.set (x4 : Int).toNat t) (wrap64 (x4 + 1)))) else (none)) else (none)) else (some x3)
def impl_Scan_1.f (k : Nat) (l0 : List Int) : Option (List Int) := if l0.length ≤ 35184372088832 then (impl_Scan_1.l0 k l0 0 (List.replicate l0.length 0) 0) else (none)
theorem impl_Scan_1.mono_l : ∀ k, (∀ y0 y1 y2 y3, LeO (impl_Scan_1.l0 k y0 y1 y2 y3) (impl_Scan_1.l0 (k + 1) y0 y1 y2 y3))
  | 0 => fun _ _ _ _ r h => by simp [impl_Scan_1.l0] at h
  | k + 1 => by
    have ih0 := impl_Scan_1.mono_l k
    · intro y0 y1 y2 y3
      unfold impl_Scan_1.l0
      repeat' first
      | (with_reducible exact ih0 _ _ _ _)
      | (with_reducible exact LeO.refl _)
      | (with_reducible exact LeO.none _)
      | (with_reducible refine LeO.ite ?_ ?_)
      | (with_reducible refine LeO.bind ?_ (fun _ => ?_))
theorem impl_Scan_1.mono : ∀ a0 k, LeO (impl_Scan_1.f k a0) (impl_Scan_1.f (k + 1) a0) := by
  intro a0 k
  have ih0 := impl_Scan_1.mono_l k
  unfold impl_Scan_1.f
  repeat' first
      | (with_reducible exact ih0 _ _ _ _)
      | (with_reducible exact LeO.refl _)
      | (with_reducible exact LeO.none _)
      | (with_reducible refine LeO.ite ?_ ?_)
set_option maxHeartbeats 8000000 in
theorem impl_Scan_1.c1 (x s r : Int) (pm : Nat) (w : World) (hb : w.heap[pm]? = some (.cells #[.int .i64 s] 3 (0, 0))) (h : impl_Plus.f s x = some r) :
    Calls Try.prog 42 #[.int .i64 x, .pointer (some ⟨pm, 0, none⟩)] w fun e w' => e = .returned (.int .i64 r) ∧ ∃ n1 n2, w' = ((w.drewN n1).setCell ⟨pm, 0, none⟩ (.int .i64 r)).drewN n2 := by
  have A2 := Aside0.mk h
  clear h
  have hm : w.cell? ⟨pm, 0, none⟩ = some (.int .i64 s) := (blk_cell hb 0).trans rfl
  have hf := blk_frozen hb 0
  go_enter Try.func42, Try.ntmps42
  go_wp2_with (first | (go_at_call 43; (with_reducible refine (impl_Plus.calls s x r _ A2.out).mono ?_); rintro e w' ⟨rfl, ⟨nd, rfl⟩⟩))
  go_ret
  first
  | exact ⟨rfl, _, _, rfl⟩
  | exact ⟨rfl, _, 0, rfl⟩
  | exact ⟨by first | rfl | (simp [*]; done), _, 0, rfl⟩
set_option maxHeartbeats 8000000 in
set_option maxRecDepth 100000 in
theorem impl_Scan_1.mp (k : Nat) (A0 : Option Addr) (c0 : Nat) (l0 : List Int) (pm : Nat) (s : Int) (r : List Int) (w w2 : World) (hr0 : Kd.C (Kd.int .i64) w A0 l0.length l0) (hc0 : l0.length ≤ c0) (hB : Below w.heap.size w w2) (hpm : w.heap.size ≤ pm) (hm : w2.heap[pm]? = some (.cells #[.int .i64 s] 3 (0, 0))) (hl : l0.length ≤ 35184372088832) (h : impl_Scan_1.l0 k l0 s (List.replicate l0.length 0) 0 = some r) :
    Calls Try.prog 41 #[.slice A0 l0.length c0, .func (.func 42) #[] #[.pointer (some ⟨pm, 0, none⟩)]] w2 fun e w' => ∃ v0_ : Value, e = .returned (v0_) ∧ Kd.R (Kd.int .i64) 3 w' w.heap.size (fun _ => True) v0_ r ∧ Below w.heap.size w w' := by
  have HR0 := Aside0.mk hr0
  have HC0 := Aside0.mk hc0
  have BK := Aside0.mk hm
  have HPM := Aside0.mk hpm
  have HB := Aside0.mk hB
  clear hr0 hc0 hm hpm hB
  have c2b1 : decide (0 ≤ (l0.length : Int)) = true := decide_eq_true (by omega)
  have c3b1 : decide (((l0.length : Int) : Int).toNat ≤ 35184372088832) = true := decide_eq_true (by omega)
  clear hl
  obtain ⟨y118, hy118⟩ : ∃ y_ : List Int, y_ = (List.replicate ((l0.length : Int) : Int).toNat 0) := ⟨_, rfl⟩
  have H : (impl_Scan_1.l0 k l0 s y118 0) = some r := by rw [hy118, Int.toNat_natCast]; exact h
  clear h
  have Ny118 := Aside0.mk hy118
  clear hy118
  have H' := Aside0.mk H
  clear H
  go_enter Try.func41, Try.ntmps41
  go_wp2_with (first | ((with_reducible refine gate_dst (N := 10) rfl ?_); refine Kd.R_make (Kd.int .i64) _ 3 rfl (N := 10) rfl 22 _ _ rfl (l0.length : Int) rfl rfl Try.underlying22 (.int .i64 0) 8 info3 rfl (by decide) (by omega) 0 (ok := fun k_ => k_ ≠ pm) (okp := fun _ => False) rfl (fun _ hk => hk.elim) (Nat.ne_of_gt (blk_lt (g := pm) (o := .cells #[.int .i64 s] 3 (0, 0)) (by first | exact BK.out | ((with_reducible repeat (first | refine blk_drewN ?_ _ | refine blk_drew ?_ | refine blk_alloc ?_ _)); exact BK.out)))) (of_decide_eq_true (by first | (with_reducible assumption) | assumption)) (Nat.le_trans (Nat.mul_le_mul_right _ (of_decide_eq_true (by first | (with_reducible assumption) | assumption) : (l0.length : Int).toNat ≤ 35184372088832)) (by omega)) (Below.refl _ _) (Nat.le_refl _) ?_; intro v119 w4 ho5 hb hg_ hnew_; clear hg_ hnew_; (first | rw [← Ny118.out] at ho5 | (simp only [Int.reduceToNat] at ho5; rw [← Ny118.out] at ho5)); have n0_ := Aside0.mk (Kd.R_lower ho5 (below_size (by repeat (first | (with_reducible first | exact HB.out | apply below_alloc | apply pw_below_drewN | apply below_drew1) | exact HB.out)))); have n1_ := Aside0.mk (below_step (by repeat (first | (with_reducible first | exact HB.out | apply below_alloc | apply pw_below_drewN | apply below_drew1) | exact HB.out)) hb); have n2_ := Aside0.mk (blk_below (g := pm) (o := .cells #[.int .i64 s] 3 (0, 0)) (by first | exact BK.out | ((with_reducible repeat (first | refine blk_drewN ?_ _ | refine blk_drew ?_ | refine blk_alloc ?_ _)); exact BK.out)) hb); clear HB BK; have HO120 := n0_; have HB := n1_; have BK := n2_; clear n0_ n1_ n2_; clear hb ho5))
  go_loopg [13] k (fun kq v13 w' => ∃ (x3_1 : List Int) (x4_1 s_1 : Int), v13 = .int .i64 x4_1 ∧ Aside0 (impl_Scan_1.l0 kq l0 s_1 x3_1 x4_1 = some r) ∧ Aside0 (kq ≤ k) ∧ Aside0 (Kd.R (Kd.int .i64) 3 w' w.heap.size (fun k_ => k_ ≠ pm) v119 x3_1) ∧ Aside0 (w'.heap[pm]? = some (.cells #[.int .i64 s_1] 3 (0, 0))) ∧ Aside0 (Below w.heap.size w w'))
  case atStart => exact ⟨(y118), (0), s, (by first | rfl | (simp; done) | (simp [*]; done)), H', ⟨Nat.le_refl _⟩, ⟨by (with_reducible repeat (first | apply Kd.R_alloc | apply Kd.R_drewN | apply Kd.R_drew)); exact HO120.out⟩, ⟨(by first | exact BK.out | ((with_reducible repeat (first | refine blk_drewN ?_ _ | refine blk_drew ?_ | refine blk_alloc ?_ _)); exact BK.out))⟩, ⟨by repeat (first | (with_reducible first | exact HB.out | apply below_alloc | apply pw_below_drewN | apply below_drew1) | exact HB.out)⟩⟩
  case round =>
    clear H' BK
    try clear c2b1
    try clear c3b1
    obtain ⟨x3_1, x4_1, s_1, rfl, HA, HK1, HO_3, BK, HB⟩ := hrel
    cases gk with
    | zero => exact absurd HA.out (by simp [impl_Scan_1.l0])
    | succ k1 =>
      have H := HA.out
      clear HA
      simp only [impl_Scan_1.l0] at H
      by_cases c6 : x4_1 < (l0.length : Int)
      · rw [if_pos c6] at H
        have c6b0 : decide (x4_1 < (l0.length : Int)) = true := decide_eq_true c6
        clear c6
        by_cases c7 : 0 ≤ x4_1
        · rw [if_pos c7] at H
          have c7b0 : decide (0 ≤ x4_1) = true := decide_eq_true c7
          clear c7
          by_cases c8 : x4_1 < (x3_1.length : Int)
          · rw [if_pos c8] at H
            have c8b0 : decide (x4_1 < (x3_1.length : Int)) = true := decide_eq_true c8
            clear c8
            obtain ⟨t9, A90, H⟩ := Option.bind_eq_some_iff.mp H
            replace H : impl_Scan_1.l0 k1 l0 t9 (x3_1.set (x4_1 : Int).toNat t9) (wrap64 (x4_1 + 1)) = some r := H
            have A9 := Aside0.mk A90
            clear A90
            obtain ⟨y122, hy122⟩ : ∃ y_ : List Int, y_ = (x3_1.set (x4_1 : Int).toNat t9) := ⟨_, rfl⟩
            replace H : (impl_Scan_1.l0 k1 l0 t9 y122 (wrap64 (x4_1 + 1))) = some r := by rw [hy122]; exact H
            have Ny122 := Aside0.mk hy122
            clear hy122
            have H' := Aside0.mk H
            clear H
            have p121 : 0 ≤ (x4_1 : Int) := of_decide_eq_true (by first | (with_reducible assumption) | assumption)
            have q121 : x4_1 < (l0.length : Int) := of_decide_eq_true (by first | (with_reducible assumption) | assumption)
            obtain ⟨ad121, e121, hx121_0⟩ := Kd.at_int HR0.out x4_1 p121 q121
            cases e121
            replace hx121_0 := (HB.out.cell (World.block_lt_of_cell? w _ hx121_0)).trans hx121_0
            replace p121 := eq_true p121
            replace q121 := eq_true q121
            have p9 : 0 ≤ (x4_1 : Int) := of_decide_eq_true (by first | (with_reducible assumption) | assumption)
            have q9 : (x4_1 : Int) < ((x3_1.length : Int) : Int) := of_decide_eq_true (by first | (with_reducible assumption) | assumption)
            obtain ⟨go9, co9, eo9, gb9, gl9, cl9, HG9⟩ := Kd.R_form HO_3.out (by omega)
            (first | cases eo9 | (injection eo9 with ea_ en_ ec_; (first | subst ea_ | (injection ea_ with ea_; subst ea_)); subst ec_; clear en_))
            have GB9 := Aside0.mk gb9
            have GN9 := Aside0.mk (HO_3.out.1 go9 rfl)
            clear gb9 gl9 HG9
            go_wp2_with (first | (go_at_call 42; (with_reducible refine (impl_Scan_1.c1 (rd l0 x4_1) s_1 t9 pm _ ?side1 A9.out).mono ?_); (case side1 => exact (by first | exact BK.out | ((with_reducible repeat (first | refine blk_drewN ?_ _ | refine blk_drew ?_ | refine blk_alloc ?_ _)); exact BK.out))); rintro e w' ⟨rfl, nd1, nd2, rfl⟩; (have n0_ := Aside0.mk (Kd.R_drewN (Kd.R_far (p := ⟨pm, 0, none⟩) (Kd.R_drewN HO_3.out nd1) (fun _ hk => hk) (.int .i64 t9)) nd2); have n1_ := Aside0.mk (pw_below_drewN (below_set (j := 0) (v := .int .i64 t9) (pw_below_drewN HB.out nd1) HPM.out) nd2); have n2_ := Aside0.mk (blk_drewN (blk_put (cs := #[.int .i64 s_1]) (cs' := #[.int .i64 t9]) (blk_drewN BK.out nd1) 0 (.int .i64 t9) rfl) nd2); clear HO_3 HB BK; have HO_3 := n0_; have HB := n1_; have BK := n2_; clear n0_ n1_ n2_); (obtain ⟨hx9_0, hf9_0⟩ := Kd.R_celln 0 HO_3.out (x4_1 : Int) p9 q9); replace p9 := eq_true p9; replace q9 := eq_true q9; have HP10 := Kd.R_putg HO_3.out (x4_1 : Int) t9) | ((with_reducible refine gate_store (t := 3) (p := 23) rfl ?_); refine store_event (t := 3) (p := 23) (v := ?vo_w11) (w1 := (World.setCell (World.drewN (World.setCell (World.drewN wr nd1) ⟨pm, 0, none⟩ (.int .i64 t9)) nd2) ⟨go9, (x4_1 : Int).toNat, none⟩ (.int .i64 t9))) ?hg ?ho ?hn ?hr ?_; (case ho => rfl); (case hg => rfl); (case hn => rfl); (case hr => first | (go_simp; done) | (go_simp; rfl)); intro w11 hw; have hp_ : Kd.R (Kd.int .i64) 3 w11 w.heap.size (fun k_ => k_ ≠ pm) (.slice (some ⟨go9, 0, none⟩) x3_1.length co9) y122 := (by rw [hw, Ny122.out]; exact HP10.1); clear HP10; have n0_ := Aside0.mk (hp_); have n1_ := Aside0.mk ((by rw [hw]; exact below_set (HB.out) GB9.out : Below w.heap.size w w11)); have n2_ := Aside0.mk ((by rw [hw]; exact blk_far BK.out (p := ⟨go9, (x4_1 : Int).toNat, none⟩) (fun e_ => GN9.out e_.symm) (.int .i64 t9) : w11.heap[pm]? = some (.cells #[.int .i64 t9] 3 (0, 0)))); clear HO_3 HB BK; have HO_3 := n0_; have HB := n1_; have BK := n2_; clear n0_ n1_ n2_; clear hw hp_))
            go_roundg k1
            case measure => have := HK1.out; omega
            case rel => exact ⟨(y122), (wrap64 (x4_1 + 1)), t9, (by first | rfl | (simp; done) | (simp [*]; done)), H', ⟨by have := HK1.out; omega⟩, ⟨by (with_reducible repeat (first | apply Kd.R_alloc | apply Kd.R_drewN | apply Kd.R_drew)); (first | exact HO_3.out | (rw [← Ny122.out] at *; exact HO_3.out))⟩, ⟨(by first | exact BK.out | ((with_reducible repeat (first | refine blk_drewN ?_ _ | refine blk_drew ?_ | refine blk_alloc ?_ _)); exact BK.out))⟩, ⟨by repeat (first | (with_reducible first | exact HB.out | apply below_alloc | apply pw_below_drewN | apply below_drew1) | exact HB.out)⟩⟩
          · rw [if_neg c8] at H
            exact absurd H (by simp)
        · rw [if_neg c7] at H
          exact absurd H (by simp)
      · rw [if_neg c6] at H
        have c6b0 : decide (x4_1 < (l0.length : Int)) = false := decide_eq_false c6
        clear c6
        obtain rfl := Option.some.inj H
        go_wp2
        go_ret
        exact ⟨_, by first | rfl | (simp [*]; done), by (with_reducible repeat (first | apply Kd.R_alloc | apply Kd.R_drewN | apply Kd.R_drew)); exact Kd.R_mono HO_3.out (fun _ _ => trivial), by repeat (first | (with_reducible first | exact HB.out | apply below_alloc | apply pw_below_drewN | apply below_drew1) | exact HB.out)⟩
set_option maxHeartbeats 8000000 in
set_option maxRecDepth 100000 in
theorem impl_Scan_1.calls (k : Nat) (A0 : Option Addr) (c0 : Nat) (l0 : List Int) (r : List Int) (w : World) (hr0 : Kd.C (Kd.int .i64) w A0 l0.length l0) (hc0 : l0.length ≤ c0) (h : impl_Scan_1.f k l0 = some r) :
    Calls Try.prog 40 #[.slice A0 l0.length c0] w fun e w' => ∃ v0_ : Value, e = .returned (v0_) ∧ Kd.R (Kd.int .i64) 3 w' w.heap.size (fun _ => True) v0_ r ∧ Below w.heap.size w w' := by
  have HR0 := Aside0.mk hr0
  have HC0 := Aside0.mk hc0
  clear hr0 hc0
  have HB := Aside0.mk (Below.refl w.heap.size w)
  have hmf : ∀ (fn : Fn) (first cap : Array Value) (w : World), (Instr.makeFunc fn first cap).run Try.prog w = .ok (.func fn first cap) w := fun _ _ _ _ => rfl
  unfold impl_Scan_1.f at h
  by_cases c10 : l0.length ≤ 35184372088832
  · rw [if_pos c10] at h
    have C10 := Aside0.mk c10
    clear c10
    have A4 := Aside0.mk h
    clear h
    go_enter Try.func40, Try.ntmps40
    go_wp2_with (first | ((with_reducible refine gate_dst (N := 3) rfl ?_); refine box_event ?hg (N := 3) ?hd (cs := #[.int .i64 0]) (t := 3) ?hr ?_; (case hd => rfl); (case hg => rfl); (case hr => first | (go_simp; done) | (go_simp; rfl)); intro gb1 hggb1 w4 hbox hb; have n0_ := Aside0.mk (below_step (by repeat (first | (with_reducible first | exact HB.out | apply below_alloc | apply pw_below_drewN | apply below_drew1) | exact HB.out)) hb); have n1_ := Aside0.mk (by rw [hggb1]; exact below_size (by repeat (first | (with_reducible first | exact HB.out | apply below_alloc | apply pw_below_drewN | apply below_drew1) | exact HB.out)) : w.heap.size ≤ gb1); clear HB; have HB := n0_; have HG1 := n1_; clear n0_ n1_; have hcb1 := (blk_cell hbox 0).trans (show (#[Value.int .i64 0] : Array Value)[0]? = some (.int .i64 0) from rfl); have hfb1 := blk_frozen hbox 0; have BK := Aside0.mk hbox; clear hb hbox hggb1) | ((with_reducible refine gate_store (t := 3) (p := 3) rfl ?_); refine store_event (t := 3) (p := 3) (v := ?vo_w11) (w1 := (World.setCell w4 ⟨gb1, 0, none⟩ (.int .i64 0))) ?hg ?ho ?hn ?hr ?_; (case ho => rfl); (case hg => rfl); (case hn => rfl); (case hr => first | (go_simp; done) | (go_simp; rfl)); intro w11 hw; have n0_ := Aside0.mk ((by rw [hw]; exact below_set (HB.out) HG1.out : Below w.heap.size w w11)); have n1_ := Aside0.mk ((by rw [hw]; exact blk_put (cs := #[.int .i64 0]) (cs' := #[.int .i64 0]) BK.out 0 (.int .i64 0) rfl : w11.heap[gb1]? = some (.cells #[.int .i64 0] 3 (0, 0)))); clear HB BK hcb1 hfb1; have HB := n0_; have BK := n1_; clear n0_ n1_ hw) | (go_at_call 41; (with_reducible refine (impl_Scan_1.mp k _ _ l0 gb1 0 r w _ ?side1 ?side2 ?side3 ?side4 ?side5 C10.out A4.out).mono ?_); (case side1 => exact HR0.out); (case side2 => exact HC0.out); (case side3 => exact by repeat (first | (with_reducible first | exact HB.out | apply below_alloc | apply pw_below_drewN | apply below_drew1 | refine below_set ?_ HG1.out) | exact HB.out)); (case side4 => exact HG1.out); (case side5 => exact (by first | exact BK.out | ((with_reducible repeat (first | refine blk_drewN ?_ _ | refine blk_drew ?_ | refine blk_alloc ?_ _)); exact BK.out))); rintro e w13 ⟨v9, rfl, ho0, hb⟩; have HO9 := Aside0.mk ho0; have HB9 := Aside0.mk hb; clear HB ho0 hb))
    go_ret
    exact ⟨_, by first | rfl | (simp [*]; done), by (with_reducible repeat (first | apply Kd.R_alloc | apply Kd.R_drewN | apply Kd.R_drew)); exact HO9.out, by repeat (first | (with_reducible first | exact HB9.out | apply below_alloc | apply pw_below_drewN | apply below_drew1) | exact HB9.out)⟩
  · rw [if_neg c10] at h
    exact absurd h (by simp)

end Go.Proofs.Ytcpemdedmepfeab.PFnExactScan
