-- Printed out of the translation, hand-written contracts beside it; checked by the kernel alone.
import Derived.Test.YtcpemdedmepfeacPFnExactLookx0
import Derived.Test.YtcpemdedmepfeacPFnExactLookx2
import Derived.Test.YtcpemdedmepfeacPFnExactLookx3
namespace Go.Proofs.Ytcpemdedmepfeac.PFnExactLook
open Go.RowKit Go.Proofs.YtcpemdedmepfeacW.PrintWords Go.Proofs.YtcpemdedmepfeacW.PrintLast Go.Proofs.YtcpemdedmepfeacW.PrintMore
attribute [local go_sem] max2_int min2_int max_two min_two max_three min_three max_four min_four   -- for this text's walks alone
set_option linter.unusedVariables false
set_option linter.unusedSimpArgs false

/-! ### spec_ViewOk: function 47 -/
mutual
def spec_ViewOk.j0 : Nat → Bool → List Int → List Int → Int → Int → Option (Bool)
 | 0, _, _, _, _, _ => none
 | k + 1, x40, x168000, x168001, x168002, x168003 => if x40 = true then (some false) else (spec_ViewOk.l0 k 0 x168000 x168001 x168002 x168003)
def spec_ViewOk.l0 : Nat → Int → List Int → List Int → Int → Int → Option (Bool)
 | 0, _, _, _, _, _ => none
 | k + 1, x3, x168000, x168001, x168002, x168003 => if x3 < (x168001.length : Int) then (if 0 ≤ x3 then (if (rd x168001 x3) < (-4096) then (some false) else (if (rd x168001 x3) > 4096 then (some false) else (spec_ViewOk.l0 k (wrap64 (x3 + 1)) x168000 x168001 x168002 x168003))) else (none)) else ((spec_l3All.f k x168000 x168001 x168002 x168003).bind fun t171 => (spec_ViewOk.l1 k t171 0 x168000 x168001 x168002 x168003))
def spec_ViewOk.l1 : Nat → List Int → Int → List Int → List Int → Int → Int → Option (Bool)
 | 0, _, _, _, _, _, _ => none
 | k + 1, x4, x5, x168000, x168001, x168002, x168003 => if x5 < (x4.length : Int) then (if 0 ≤ x5 then (if (rd x4 x5) < 0 then (some false) else (if (rd x4 x5) ≥ x168003 then (some false) else (spec_ViewOk.l1 k x4 (wrap64 (x5 + 1)) x168000 x168001 x168002 x168003))) else (none)) else (some true)
end
def spec_ViewOk.f (k : Nat) (l0_0 : List Int) (l0_1 : List Int) (a0_2 : Int) (a0_3 : Int) : Option (Bool) := (spec_DimsOk.f k l0_0).bind fun t168 => (if t168 = true then (if (l0_1.length : Int) = (l0_0.length : Int) then (if a0_3 < 1 then (spec_ViewOk.j0 k true l0_0 l0_1 a0_2 a0_3) else (if a0_3 > 4096 then (spec_ViewOk.j0 k true l0_0 l0_1 a0_2 a0_3) else (if a0_2 < 0 then (spec_ViewOk.j0 k true l0_0 l0_1 a0_2 a0_3) else (spec_ViewOk.j0 k (decide (a0_2 ≥ a0_3)) l0_0 l0_1 a0_2 a0_3)))) else (spec_ViewOk.j0 k true l0_0 l0_1 a0_2 a0_3)) else (spec_ViewOk.j0 k true l0_0 l0_1 a0_2 a0_3))
theorem spec_ViewOk.mono_l : ∀ k, (∀ y0 y1 y2 y3 y4, LeO (spec_ViewOk.j0 k y0 y1 y2 y3 y4) (spec_ViewOk.j0 (k + 1) y0 y1 y2 y3 y4)) ∧ (∀ y0 y1 y2 y3 y4, LeO (spec_ViewOk.l0 k y0 y1 y2 y3 y4) (spec_ViewOk.l0 (k + 1) y0 y1 y2 y3 y4)) ∧ (∀ y0 y1 y2 y3 y4 y5, LeO (spec_ViewOk.l1 k y0 y1 y2 y3 y4 y5) (spec_ViewOk.l1 (k + 1) y0 y1 y2 y3 y4 y5))
 | 0 => ⟨fun _ _ _ _ _ r h => by simp [spec_ViewOk.j0] at h, fun _ _ _ _ _ r h => by simp [spec_ViewOk.l0] at h, fun _ _ _ _ _ _ r h => by simp [spec_ViewOk.l1] at h⟩
 | k + 1 => by
  obtain ⟨ih0, ih1, ih2⟩ := spec_ViewOk.mono_l k
  refine ⟨?_, ?_, ?_⟩
  ·intro y0 y1 y2 y3 y4
   unfold spec_ViewOk.j0
   repeat' first
   | (with_reducible exact ih0 _ _ _ _ _)
   | (with_reducible exact ih1 _ _ _ _ _)
   | (with_reducible exact ih2 _ _ _ _ _ _)
   | (with_reducible exact spec_DimsOk.mono _ _)
   | (with_reducible exact spec_l3All.mono _ _ _ _ _)
   | (with_reducible exact LeO.refl _)
   | (with_reducible exact LeO.none _)
   | (with_reducible refine LeO.ite ?_ ?_)
   | (with_reducible refine LeO.bind ?_ (fun _ => ?_))
   | exact ih0 _ _ _ _ _
   | exact ih1 _ _ _ _ _
   | exact ih2 _ _ _ _ _ _
   | exact spec_DimsOk.mono _ _
   | exact spec_l3All.mono _ _ _ _ _
   | exact LeO.none _
   | refine LeO.ite ?_ ?_
   | refine LeO.bind ?_ (fun _ => ?_)
  ·intro y0 y1 y2 y3 y4
   unfold spec_ViewOk.l0
   repeat' first
   | (with_reducible exact ih0 _ _ _ _ _)
   | (with_reducible exact ih1 _ _ _ _ _)
   | (with_reducible exact ih2 _ _ _ _ _ _)
   | (with_reducible exact spec_DimsOk.mono _ _)
   | (with_reducible exact spec_l3All.mono _ _ _ _ _)
   | (with_reducible exact LeO.refl _)
   | (with_reducible exact LeO.none _)
   | (with_reducible refine LeO.ite ?_ ?_)
   | (with_reducible refine LeO.bind ?_ (fun _ => ?_))
   | exact ih0 _ _ _ _ _
   | exact ih1 _ _ _ _ _
   | exact ih2 _ _ _ _ _ _
   | exact spec_DimsOk.mono _ _
   | exact spec_l3All.mono _ _ _ _ _
   | exact LeO.none _
   | refine LeO.ite ?_ ?_
   | refine LeO.bind ?_ (fun _ => ?_)
  ·intro y0 y1 y2 y3 y4 y5
   unfold spec_ViewOk.l1
   repeat' first
   | (with_reducible exact ih0 _ _ _ _ _)
   | (with_reducible exact ih1 _ _ _ _ _)
   | (with_reducible exact ih2 _ _ _ _ _ _)
   | (with_reducible exact spec_DimsOk.mono _ _)
   | (with_reducible exact spec_l3All.mono _ _ _ _ _)
   | (with_reducible exact LeO.refl _)
   | (with_reducible exact LeO.none _)
   | (with_reducible refine LeO.ite ?_ ?_)
   | (with_reducible refine LeO.bind ?_ (fun _ => ?_))
   | exact ih0 _ _ _ _ _
   | exact ih1 _ _ _ _ _
   | exact ih2 _ _ _ _ _ _
   | exact spec_DimsOk.mono _ _
   | exact spec_l3All.mono _ _ _ _ _
   | exact LeO.none _
   | refine LeO.ite ?_ ?_
   | refine LeO.bind ?_ (fun _ => ?_)
theorem spec_ViewOk.mono : ∀ a0 a1 a2 a3 k, LeO (spec_ViewOk.f k a0 a1 a2 a3) (spec_ViewOk.f (k + 1) a0 a1 a2 a3) := by
 intro a0 a1 a2 a3 k
 obtain ⟨ih0, ih1, ih2⟩ := spec_ViewOk.mono_l k
 unfold spec_ViewOk.f
 repeat' first
   | (with_reducible exact ih0 _ _ _ _ _)
   | (with_reducible exact ih1 _ _ _ _ _)
   | (with_reducible exact ih2 _ _ _ _ _ _)
   | (with_reducible exact spec_DimsOk.mono _ _)
   | (with_reducible exact spec_l3All.mono _ _ _ _ _)
   | (with_reducible exact LeO.refl _)
   | (with_reducible exact LeO.none _)
   | (with_reducible refine LeO.ite ?_ ?_)
   | (with_reducible refine LeO.bind ?_ (fun _ => ?_))
   | exact ih0 _ _ _ _ _
   | exact ih1 _ _ _ _ _
   | exact ih2 _ _ _ _ _ _
   | exact spec_DimsOk.mono _ _
   | exact spec_l3All.mono _ _ _ _ _
   | exact LeO.none _
   | refine LeO.ite ?_ ?_
   | refine LeO.bind ?_ (fun _ => ?_)
set_option maxHeartbeats 8000000 in
set_option maxRecDepth 100000 in
theorem spec_ViewOk.calls (k : Nat) (A0_0 : Option Addr) (c0_0 : Nat) (l0_0 : List Int) (A0_1 : Option Addr) (c0_1 : Nat) (l0_1 : List Int) (a0_2 : Int) (a0_3 : Int) (r : Bool) (w : World) (hr0_0 : Kd.C (Kd.int .i64) w A0_0 l0_0.length l0_0) (hc0_0 : l0_0.length ≤ c0_0) (hr0_1 : Kd.C (Kd.int .i64) w A0_1 l0_1.length l0_1) (hc0_1 : l0_1.length ≤ c0_1) (h : spec_ViewOk.f k l0_0 l0_1 a0_2 a0_3 = some r) :
  Calls Try.prog 47 #[.agg #[.slice A0_0 l0_0.length c0_0, .slice A0_1 l0_1.length c0_1, .int .i64 a0_2, .int .i64 a0_3]] w fun e w' => e = .returned (.bool r) ∧ Below w.heap.size w w' := by
 have hu36 := Try.underlying36
 have HR0_0 := Aside0.mk hr0_0
 have HC0_0 := Aside0.mk hc0_0
 clear hr0_0 hc0_0
 have HR0_1 := Aside0.mk hr0_1
 have HC0_1 := Aside0.mk hc0_1
 clear hr0_1 hc0_1
 have HB := Aside0.mk (Below.refl w.heap.size w)
 have H : ((spec_DimsOk.f k l0_0).bind fun t168 => (if t168 = true then (if (l0_1.length : Int) = (l0_0.length : Int) then (if a0_3 < 1 then (spec_ViewOk.j0 k true l0_0 l0_1 a0_2 a0_3) else (if a0_3 > 4096 then (spec_ViewOk.j0 k true l0_0 l0_1 a0_2 a0_3) else (if a0_2 < 0 then (spec_ViewOk.j0 k true l0_0 l0_1 a0_2 a0_3) else (spec_ViewOk.j0 k (decide (a0_2 ≥ a0_3)) l0_0 l0_1 a0_2 a0_3)))) else (spec_ViewOk.j0 k true l0_0 l0_1 a0_2 a0_3)) else (spec_ViewOk.j0 k true l0_0 l0_1 a0_2 a0_3))) = some r := h
 clear h
 have HC2 := Aside0.mk H
 clear H
 go_enter Try.func47, Try.ntmps47
 go_upto_region 1 with (first | ((with_reducible refine gate_dst (N := 1) rfl ?_); (try (refine gate_guard (by rfl) ?_; dsimp only)); refine box_event ?hg (N := 1) ?hd (cs := #[.slice A0_0 l0_0.length c0_0, .slice A0_1 l0_1.length c0_1, .int .i64 a0_2, .int .i64 a0_3]) (t := 36) ?hr ?_; (case hd => rfl); (case hg => rfl); (case hr => first | (go_simp; done) | (go_simp; rfl)); intro gb167 hg w3 hbox hb; have BK167 := Aside0.mk (hbox); have GW167 := Aside0.mk ((by rw [hg]; exact (below_size (Hu HB.out)) : w.heap.size ≤ gb167)); have GE167 := Aside0.mk ((by rw [hg]; exact (below_size (Hu HB.out)) : w.heap.size ≤ gb167)); replace HB := Aside0.mk (below_step (Hu HB.out) hb); clear hb hbox hg))
 repeat (go_quiet (first | ((with_reducible refine gate_dst (N := 1) rfl ?_); (try (refine gate_guard (by rfl) ?_; dsimp only)); refine box_event ?hg (N := 1) ?hd (cs := #[.slice A0_0 l0_0.length c0_0, .slice A0_1 l0_1.length c0_1, .int .i64 a0_2, .int .i64 a0_3]) (t := 36) ?hr ?_; (case hd => rfl); (case hg => rfl); (case hr => first | (go_simp; done) | (go_simp; rfl)); intro gb167 hg w3 hbox hb; have BK167 := Aside0.mk (hbox); have GW167 := Aside0.mk ((by rw [hg]; exact (below_size (Hu HB.out)) : w.heap.size ≤ gb167)); have GE167 := Aside0.mk ((by rw [hg]; exact (below_size (Hu HB.out)) : w.heap.size ≤ gb167)); replace HB := Aside0.mk (below_step (Hu HB.out) hb); clear hb hbox hg)); go_upto_region 1 with (first | ((with_reducible refine gate_dst (N := 1) rfl ?_); (try (refine gate_guard (by rfl) ?_; dsimp only)); refine box_event ?hg (N := 1) ?hd (cs := #[.slice A0_0 l0_0.length c0_0, .slice A0_1 l0_1.length c0_1, .int .i64 a0_2, .int .i64 a0_3]) (t := 36) ?hr ?_; (case hd => rfl); (case hg => rfl); (case hr => first | (go_simp; done) | (go_simp; rfl)); intro gb167 hg w3 hbox hb; have BK167 := Aside0.mk (hbox); have GW167 := Aside0.mk ((by rw [hg]; exact (below_size (Hu HB.out)) : w.heap.size ≤ gb167)); have GE167 := Aside0.mk ((by rw [hg]; exact (below_size (Hu HB.out)) : w.heap.size ≤ gb167)); replace HB := Aside0.mk (below_step (Hu HB.out) hb); clear hb hbox hg)))
 (try simp only [Act.put, List.setIfInBounds_toArray, List.set_cons_zero, List.set_cons_succ])
 go_cut [40] (fun v40 wc => ∃ (kq : Nat) (x40_1 : Bool), v40 = .bool x40_1 ∧ Aside0 (spec_ViewOk.j0 kq x40_1 l0_0 l0_1 a0_2 a0_3 = some r) ∧ Aside0 (kq ≤ k) ∧ Aside0 (wc.heap[gb167]? = some (.cells #[(.slice A0_0 l0_0.length c0_0), (.slice A0_1 l0_1.length c0_1), .int .i64 a0_2, .int .i64 a0_3] 36 (0, 0))) ∧ Aside0 (Below w.heap.size w wc))
 case first =>
  have H := HC2.out
  clear HC2
  replace H := Option.bind_eq_some_iff.mp H
  obtain ⟨t168, A40, H⟩ := H
  replace H : (if t168 = true then (if (l0_1.length : Int) = (l0_0.length : Int) then (if a0_3 < 1 then (spec_ViewOk.j0 k true l0_0 l0_1 a0_2 a0_3) else (if a0_3 > 4096 then (spec_ViewOk.j0 k true l0_0 l0_1 a0_2 a0_3) else (if a0_2 < 0 then (spec_ViewOk.j0 k true l0_0 l0_1 a0_2 a0_3) else (spec_ViewOk.j0 k (decide (a0_2 ≥ a0_3)) l0_0 l0_1 a0_2 a0_3)))) else (spec_ViewOk.j0 k true l0_0 l0_1 a0_2 a0_3)) else (spec_ViewOk.j0 k true l0_0 l0_1 a0_2 a0_3)) = some r := H
  have A4 := Aside0.mk A40
  clear A40
  by_cases c5 : t168 = true
  ·subst c5
   have H1 : (if (l0_1.length : Int) = (l0_0.length : Int) then (if a0_3 < 1 then (spec_ViewOk.j0 k true l0_0 l0_1 a0_2 a0_3) else (if a0_3 > 4096 then (spec_ViewOk.j0 k true l0_0 l0_1 a0_2 a0_3) else (if a0_2 < 0 then (spec_ViewOk.j0 k true l0_0 l0_1 a0_2 a0_3) else (spec_ViewOk.j0 k (decide (a0_2 ≥ a0_3)) l0_0 l0_1 a0_2 a0_3)))) else (spec_ViewOk.j0 k true l0_0 l0_1 a0_2 a0_3)) = some r := by rw [if_pos rfl] at H; exact H
   clear H
   have H := H1
   clear H1
   by_cases c6 : (l0_1.length : Int) = (l0_0.length : Int)
   ·rw [if_pos c6] at H
    have c6b0 : ((l0_1.length : Int) == (l0_0.length : Int)) = true := beq_iff_eq.mpr c6
    have c6b1 : ((l0_1.length : Int) != (l0_0.length : Int)) = false := bne_eq_false_iff_eq.mpr c6
    have c6b2 : (l0_1.length == l0_0.length) = true := by first | simpa using c6 | (simp at c6 ⊢; omega)
    clear c6
    (first | rw [c6b0] | (simp only [i64_w, i32_w]; rw [c6b0]) | skip)
    by_cases c7 : a0_3 < 1
    ·rw [if_pos c7] at H
     have c7b0 : decide (a0_3 < 1) = true := decide_eq_true c7
     clear c7
     have H' := Aside0.mk H
     clear H
     have hcz8_0 : w3.cell? ⟨gb167, 0, none⟩ = some (.slice A0_0 l0_0.length c0_0) := (blk_cell BK167.out 0).trans rfl
     have hcz8_1 : w3.cell? ⟨gb167, 1, none⟩ = some (.slice A0_1 l0_1.length c0_1) := (blk_cell BK167.out 1).trans rfl
     have hcz8_2 : w3.cell? ⟨gb167, 2, none⟩ = some (.int .i64 a0_2) := (blk_cell BK167.out 2).trans rfl
     have hcz8_3 : w3.cell? ⟨gb167, 3, none⟩ = some (.int .i64 a0_3) := (blk_cell BK167.out 3).trans rfl
     have hfz8_0 := blk_frozen BK167.out 0
     have hfz8_1 := blk_frozen BK167.out 1
     have hfz8_2 := blk_frozen BK167.out 2
     have hfz8_3 := blk_frozen BK167.out 3
     go_wp2_with (first | (go_at_call 52; (with_reducible refine (spec_DimsOk.calls k _ _ l0_0 true _ ?side1 ?side2 A4.out).mono ?_); (case side1 => exact (Cu ((Kd.C_below HR0_0.out HB.out)))); (case side2 => exact HC0_0.out); rintro e w' ⟨rfl, ⟨nd, rfl⟩⟩; (try first | exact ⟨rfl, _, World.drewN_drewN _ _ _⟩ | exact ⟨rfl, _, Eq.trans (World.drewN_drewN _ _ _) (congrArg (World.drewN _) (Nat.add_assoc _ _ _))⟩)))
     repeat (go_quiet (first | (go_at_call 52; (with_reducible refine (spec_DimsOk.calls k _ _ l0_0 true _ ?side1 ?side2 A4.out).mono ?_); (case side1 => exact (Cu ((Kd.C_below HR0_0.out HB.out)))); (case side2 => exact HC0_0.out); rintro e w' ⟨rfl, ⟨nd, rfl⟩⟩; (try first | exact ⟨rfl, _, World.drewN_drewN _ _ _⟩ | exact ⟨rfl, _, Eq.trans (World.drewN_drewN _ _ _) (congrArg (World.drewN _) (Nat.add_assoc _ _ _))⟩))); try go_wp2_with (first | (go_at_call 52; (with_reducible refine (spec_DimsOk.calls k _ _ l0_0 true _ ?side1 ?side2 A4.out).mono ?_); (case side1 => exact (Cu ((Kd.C_below HR0_0.out HB.out)))); (case side2 => exact HC0_0.out); rintro e w' ⟨rfl, ⟨nd, rfl⟩⟩; (try first | exact ⟨rfl, _, World.drewN_drewN _ _ _⟩ | exact ⟨rfl, _, Eq.trans (World.drewN_drewN _ _ _) (congrArg (World.drewN _) (Nat.add_assoc _ _ _))⟩))))
     go_meet
     case rel => exact ⟨_, (true), (by first | rfl | (simp; done) | (simp [*]; done)), H', ⟨by first | omega | exact Nat.le_refl _⟩, ⟨by (with_reducible repeat (first | refine blk_drewN ?_ _ | refine blk_drew ?_ | refine blk_alloc ?_ _)); exact BK167.out⟩, ⟨HBu HB.out⟩⟩
    ·rw [if_neg c7] at H
     have c7b0 : decide (a0_3 < 1) = false := decide_eq_false c7
     clear c7
     by_cases c9 : a0_3 > 4096
     ·rw [if_pos c9] at H
      have c9b0 : decide (4096 < a0_3) = true := decide_eq_true c9
      clear c9
      have H' := Aside0.mk H
      clear H
      have hcz10_0 : w3.cell? ⟨gb167, 0, none⟩ = some (.slice A0_0 l0_0.length c0_0) := (blk_cell BK167.out 0).trans rfl
      have hcz10_1 : w3.cell? ⟨gb167, 1, none⟩ = some (.slice A0_1 l0_1.length c0_1) := (blk_cell BK167.out 1).trans rfl
      have hcz10_2 : w3.cell? ⟨gb167, 2, none⟩ = some (.int .i64 a0_2) := (blk_cell BK167.out 2).trans rfl
      have hcz10_3 : w3.cell? ⟨gb167, 3, none⟩ = some (.int .i64 a0_3) := (blk_cell BK167.out 3).trans rfl
      have hfz10_0 := blk_frozen BK167.out 0
      have hfz10_1 := blk_frozen BK167.out 1
      have hfz10_2 := blk_frozen BK167.out 2
      have hfz10_3 := blk_frozen BK167.out 3
      go_wp2_with (first | (go_at_call 52; (with_reducible refine (spec_DimsOk.calls k _ _ l0_0 true _ ?side1 ?side2 A4.out).mono ?_); (case side1 => exact (Cu ((Kd.C_below HR0_0.out HB.out)))); (case side2 => exact HC0_0.out); rintro e w' ⟨rfl, ⟨nd, rfl⟩⟩; (try first | exact ⟨rfl, _, World.drewN_drewN _ _ _⟩ | exact ⟨rfl, _, Eq.trans (World.drewN_drewN _ _ _) (congrArg (World.drewN _) (Nat.add_assoc _ _ _))⟩)))
      repeat (go_quiet (first | (go_at_call 52; (with_reducible refine (spec_DimsOk.calls k _ _ l0_0 true _ ?side1 ?side2 A4.out).mono ?_); (case side1 => exact (Cu ((Kd.C_below HR0_0.out HB.out)))); (case side2 => exact HC0_0.out); rintro e w' ⟨rfl, ⟨nd, rfl⟩⟩; (try first | exact ⟨rfl, _, World.drewN_drewN _ _ _⟩ | exact ⟨rfl, _, Eq.trans (World.drewN_drewN _ _ _) (congrArg (World.drewN _) (Nat.add_assoc _ _ _))⟩))); try go_wp2_with (first | (go_at_call 52; (with_reducible refine (spec_DimsOk.calls k _ _ l0_0 true _ ?side1 ?side2 A4.out).mono ?_); (case side1 => exact (Cu ((Kd.C_below HR0_0.out HB.out)))); (case side2 => exact HC0_0.out); rintro e w' ⟨rfl, ⟨nd, rfl⟩⟩; (try first | exact ⟨rfl, _, World.drewN_drewN _ _ _⟩ | exact ⟨rfl, _, Eq.trans (World.drewN_drewN _ _ _) (congrArg (World.drewN _) (Nat.add_assoc _ _ _))⟩))))
      go_meet
      case rel => exact ⟨_, (true), (by first | rfl | (simp; done) | (simp [*]; done)), H', ⟨by first | omega | exact Nat.le_refl _⟩, ⟨by (with_reducible repeat (first | refine blk_drewN ?_ _ | refine blk_drew ?_ | refine blk_alloc ?_ _)); exact BK167.out⟩, ⟨HBu HB.out⟩⟩
     ·rw [if_neg c9] at H
      have c9b0 : decide (4096 < a0_3) = false := decide_eq_false c9
      clear c9
      by_cases c11 : a0_2 < 0
      ·rw [if_pos c11] at H
       have c11b0 : decide (a0_2 < 0) = true := decide_eq_true c11
       clear c11
       have H' := Aside0.mk H
       clear H
       have hcz12_0 : w3.cell? ⟨gb167, 0, none⟩ = some (.slice A0_0 l0_0.length c0_0) := (blk_cell BK167.out 0).trans rfl
       have hcz12_1 : w3.cell? ⟨gb167, 1, none⟩ = some (.slice A0_1 l0_1.length c0_1) := (blk_cell BK167.out 1).trans rfl
       have hcz12_2 : w3.cell? ⟨gb167, 2, none⟩ = some (.int .i64 a0_2) := (blk_cell BK167.out 2).trans rfl
       have hcz12_3 : w3.cell? ⟨gb167, 3, none⟩ = some (.int .i64 a0_3) := (blk_cell BK167.out 3).trans rfl
       have hfz12_0 := blk_frozen BK167.out 0
       have hfz12_1 := blk_frozen BK167.out 1
       have hfz12_2 := blk_frozen BK167.out 2
       have hfz12_3 := blk_frozen BK167.out 3
       go_wp2_with (first | (go_at_call 52; (with_reducible refine (spec_DimsOk.calls k _ _ l0_0 true _ ?side1 ?side2 A4.out).mono ?_); (case side1 => exact (Cu ((Kd.C_below HR0_0.out HB.out)))); (case side2 => exact HC0_0.out); rintro e w' ⟨rfl, ⟨nd, rfl⟩⟩; (try first | exact ⟨rfl, _, World.drewN_drewN _ _ _⟩ | exact ⟨rfl, _, Eq.trans (World.drewN_drewN _ _ _) (congrArg (World.drewN _) (Nat.add_assoc _ _ _))⟩)))
       repeat (go_quiet (first | (go_at_call 52; (with_reducible refine (spec_DimsOk.calls k _ _ l0_0 true _ ?side1 ?side2 A4.out).mono ?_); (case side1 => exact (Cu ((Kd.C_below HR0_0.out HB.out)))); (case side2 => exact HC0_0.out); rintro e w' ⟨rfl, ⟨nd, rfl⟩⟩; (try first | exact ⟨rfl, _, World.drewN_drewN _ _ _⟩ | exact ⟨rfl, _, Eq.trans (World.drewN_drewN _ _ _) (congrArg (World.drewN _) (Nat.add_assoc _ _ _))⟩))); try go_wp2_with (first | (go_at_call 52; (with_reducible refine (spec_DimsOk.calls k _ _ l0_0 true _ ?side1 ?side2 A4.out).mono ?_); (case side1 => exact (Cu ((Kd.C_below HR0_0.out HB.out)))); (case side2 => exact HC0_0.out); rintro e w' ⟨rfl, ⟨nd, rfl⟩⟩; (try first | exact ⟨rfl, _, World.drewN_drewN _ _ _⟩ | exact ⟨rfl, _, Eq.trans (World.drewN_drewN _ _ _) (congrArg (World.drewN _) (Nat.add_assoc _ _ _))⟩))))
       go_meet
       case rel => exact ⟨_, (true), (by first | rfl | (simp; done) | (simp [*]; done)), H', ⟨by first | omega | exact Nat.le_refl _⟩, ⟨by (with_reducible repeat (first | refine blk_drewN ?_ _ | refine blk_drew ?_ | refine blk_alloc ?_ _)); exact BK167.out⟩, ⟨HBu HB.out⟩⟩
      ·rw [if_neg c11] at H
       have c11b0 : decide (a0_2 < 0) = false := decide_eq_false c11
       clear c11
       have H' := Aside0.mk H
       clear H
       have hcz13_0 : w3.cell? ⟨gb167, 0, none⟩ = some (.slice A0_0 l0_0.length c0_0) := (blk_cell BK167.out 0).trans rfl
       have hcz13_1 : w3.cell? ⟨gb167, 1, none⟩ = some (.slice A0_1 l0_1.length c0_1) := (blk_cell BK167.out 1).trans rfl
       have hcz13_2 : w3.cell? ⟨gb167, 2, none⟩ = some (.int .i64 a0_2) := (blk_cell BK167.out 2).trans rfl
       have hcz13_3 : w3.cell? ⟨gb167, 3, none⟩ = some (.int .i64 a0_3) := (blk_cell BK167.out 3).trans rfl
       have hfz13_0 := blk_frozen BK167.out 0
       have hfz13_1 := blk_frozen BK167.out 1
       have hfz13_2 := blk_frozen BK167.out 2
       have hfz13_3 := blk_frozen BK167.out 3
       go_wp2_with (first | (go_at_call 52; (with_reducible refine (spec_DimsOk.calls k _ _ l0_0 true _ ?side1 ?side2 A4.out).mono ?_); (case side1 => exact (Cu ((Kd.C_below HR0_0.out HB.out)))); (case side2 => exact HC0_0.out); rintro e w' ⟨rfl, ⟨nd, rfl⟩⟩; (try first | exact ⟨rfl, _, World.drewN_drewN _ _ _⟩ | exact ⟨rfl, _, Eq.trans (World.drewN_drewN _ _ _) (congrArg (World.drewN _) (Nat.add_assoc _ _ _))⟩)))
       repeat (go_quiet (first | (go_at_call 52; (with_reducible refine (spec_DimsOk.calls k _ _ l0_0 true _ ?side1 ?side2 A4.out).mono ?_); (case side1 => exact (Cu ((Kd.C_below HR0_0.out HB.out)))); (case side2 => exact HC0_0.out); rintro e w' ⟨rfl, ⟨nd, rfl⟩⟩; (try first | exact ⟨rfl, _, World.drewN_drewN _ _ _⟩ | exact ⟨rfl, _, Eq.trans (World.drewN_drewN _ _ _) (congrArg (World.drewN _) (Nat.add_assoc _ _ _))⟩))); try go_wp2_with (first | (go_at_call 52; (with_reducible refine (spec_DimsOk.calls k _ _ l0_0 true _ ?side1 ?side2 A4.out).mono ?_); (case side1 => exact (Cu ((Kd.C_below HR0_0.out HB.out)))); (case side2 => exact HC0_0.out); rintro e w' ⟨rfl, ⟨nd, rfl⟩⟩; (try first | exact ⟨rfl, _, World.drewN_drewN _ _ _⟩ | exact ⟨rfl, _, Eq.trans (World.drewN_drewN _ _ _) (congrArg (World.drewN _) (Nat.add_assoc _ _ _))⟩))))
       go_meet
       case rel => exact ⟨_, (decide (a0_2 ≥ a0_3)), (by first | rfl | (simp; done) | (simp [*]; done)), H', ⟨by first | omega | exact Nat.le_refl _⟩, ⟨by (with_reducible repeat (first | refine blk_drewN ?_ _ | refine blk_drew ?_ | refine blk_alloc ?_ _)); exact BK167.out⟩, ⟨HBu HB.out⟩⟩
   ·rw [if_neg c6] at H
    have c6b0 : ((l0_1.length : Int) == (l0_0.length : Int)) = false := beq_eq_false_iff_ne.mpr c6
    have c6b1 : ((l0_1.length : Int) != (l0_0.length : Int)) = true := bne_iff_ne.mpr c6
    have c6b2 : (l0_1.length == l0_0.length) = false := by first | simpa using c6 | (simp at c6 ⊢; omega)
    (first | rw [c6b0] | (simp only [i64_w, i32_w]; rw [c6b0]) | skip)
    have H' := Aside0.mk H
    clear H
    have hcz14_0 : w3.cell? ⟨gb167, 0, none⟩ = some (.slice A0_0 l0_0.length c0_0) := (blk_cell BK167.out 0).trans rfl
    have hcz14_1 : w3.cell? ⟨gb167, 1, none⟩ = some (.slice A0_1 l0_1.length c0_1) := (blk_cell BK167.out 1).trans rfl
    have hcz14_2 : w3.cell? ⟨gb167, 2, none⟩ = some (.int .i64 a0_2) := (blk_cell BK167.out 2).trans rfl
    have hcz14_3 : w3.cell? ⟨gb167, 3, none⟩ = some (.int .i64 a0_3) := (blk_cell BK167.out 3).trans rfl
    have hfz14_0 := blk_frozen BK167.out 0
    have hfz14_1 := blk_frozen BK167.out 1
    have hfz14_2 := blk_frozen BK167.out 2
    have hfz14_3 := blk_frozen BK167.out 3
    go_wp2_with (first | (go_at_call 52; (with_reducible refine (spec_DimsOk.calls k _ _ l0_0 true _ ?side1 ?side2 A4.out).mono ?_); (case side1 => exact (Cu ((Kd.C_below HR0_0.out HB.out)))); (case side2 => exact HC0_0.out); rintro e w' ⟨rfl, ⟨nd, rfl⟩⟩; (try first | exact ⟨rfl, _, World.drewN_drewN _ _ _⟩ | exact ⟨rfl, _, Eq.trans (World.drewN_drewN _ _ _) (congrArg (World.drewN _) (Nat.add_assoc _ _ _))⟩)))
    repeat (go_quiet (first | (go_at_call 52; (with_reducible refine (spec_DimsOk.calls k _ _ l0_0 true _ ?side1 ?side2 A4.out).mono ?_); (case side1 => exact (Cu ((Kd.C_below HR0_0.out HB.out)))); (case side2 => exact HC0_0.out); rintro e w' ⟨rfl, ⟨nd, rfl⟩⟩; (try first | exact ⟨rfl, _, World.drewN_drewN _ _ _⟩ | exact ⟨rfl, _, Eq.trans (World.drewN_drewN _ _ _) (congrArg (World.drewN _) (Nat.add_assoc _ _ _))⟩))); try go_wp2_with (first | (go_at_call 52; (with_reducible refine (spec_DimsOk.calls k _ _ l0_0 true _ ?side1 ?side2 A4.out).mono ?_); (case side1 => exact (Cu ((Kd.C_below HR0_0.out HB.out)))); (case side2 => exact HC0_0.out); rintro e w' ⟨rfl, ⟨nd, rfl⟩⟩; (try first | exact ⟨rfl, _, World.drewN_drewN _ _ _⟩ | exact ⟨rfl, _, Eq.trans (World.drewN_drewN _ _ _) (congrArg (World.drewN _) (Nat.add_assoc _ _ _))⟩))))
    go_meet
    case rel => exact ⟨_, (true), (by first | rfl | (simp; done) | (simp [*]; done)), H', ⟨by first | omega | exact Nat.le_refl _⟩, ⟨by (with_reducible repeat (first | refine blk_drewN ?_ _ | refine blk_drew ?_ | refine blk_alloc ?_ _)); exact BK167.out⟩, ⟨HBu HB.out⟩⟩
  ·replace c5 := Bool.eq_false_iff.mpr c5
   subst c5
   have H1 : (spec_ViewOk.j0 k true l0_0 l0_1 a0_2 a0_3) = some r := by rw [if_neg (show ¬ (false = true) by decide)] at H; exact H
   clear H
   have H := H1
   clear H1
   have H' := Aside0.mk H
   clear H
   have hcz15_0 : w3.cell? ⟨gb167, 0, none⟩ = some (.slice A0_0 l0_0.length c0_0) := (blk_cell BK167.out 0).trans rfl
   have hcz15_1 : w3.cell? ⟨gb167, 1, none⟩ = some (.slice A0_1 l0_1.length c0_1) := (blk_cell BK167.out 1).trans rfl
   have hcz15_2 : w3.cell? ⟨gb167, 2, none⟩ = some (.int .i64 a0_2) := (blk_cell BK167.out 2).trans rfl
   have hcz15_3 : w3.cell? ⟨gb167, 3, none⟩ = some (.int .i64 a0_3) := (blk_cell BK167.out 3).trans rfl
   have hfz15_0 := blk_frozen BK167.out 0
   have hfz15_1 := blk_frozen BK167.out 1
   have hfz15_2 := blk_frozen BK167.out 2
   have hfz15_3 := blk_frozen BK167.out 3
   go_wp2_with (first | (go_at_call 52; (with_reducible refine (spec_DimsOk.calls k _ _ l0_0 false _ ?side1 ?side2 A4.out).mono ?_); (case side1 => exact (Cu ((Kd.C_below HR0_0.out HB.out)))); (case side2 => exact HC0_0.out); rintro e w' ⟨rfl, ⟨nd, rfl⟩⟩; (try first | exact ⟨rfl, _, World.drewN_drewN _ _ _⟩ | exact ⟨rfl, _, Eq.trans (World.drewN_drewN _ _ _) (congrArg (World.drewN _) (Nat.add_assoc _ _ _))⟩)))
   repeat (go_quiet (first | (go_at_call 52; (with_reducible refine (spec_DimsOk.calls k _ _ l0_0 false _ ?side1 ?side2 A4.out).mono ?_); (case side1 => exact (Cu ((Kd.C_below HR0_0.out HB.out)))); (case side2 => exact HC0_0.out); rintro e w' ⟨rfl, ⟨nd, rfl⟩⟩; (try first | exact ⟨rfl, _, World.drewN_drewN _ _ _⟩ | exact ⟨rfl, _, Eq.trans (World.drewN_drewN _ _ _) (congrArg (World.drewN _) (Nat.add_assoc _ _ _))⟩))); try go_wp2_with (first | (go_at_call 52; (with_reducible refine (spec_DimsOk.calls k _ _ l0_0 false _ ?side1 ?side2 A4.out).mono ?_); (case side1 => exact (Cu ((Kd.C_below HR0_0.out HB.out)))); (case side2 => exact HC0_0.out); rintro e w' ⟨rfl, ⟨nd, rfl⟩⟩; (try first | exact ⟨rfl, _, World.drewN_drewN _ _ _⟩ | exact ⟨rfl, _, Eq.trans (World.drewN_drewN _ _ _) (congrArg (World.drewN _) (Nat.add_assoc _ _ _))⟩))))
   go_meet
   case rel => exact ⟨_, (true), (by first | rfl | (simp; done) | (simp [*]; done)), H', ⟨by first | omega | exact Nat.le_refl _⟩, ⟨by (with_reducible repeat (first | refine blk_drewN ?_ _ | refine blk_drew ?_ | refine blk_alloc ?_ _)); exact BK167.out⟩, ⟨HBu HB.out⟩⟩
 case rest =>
  clear HC2
  try clear c1
  try clear p2
  try clear c4
  try clear c5
  try clear c6
  try clear c6b0
  try clear c6b1
  try clear c6b2
  try clear c7
  try clear c7b0
  try clear c9
  try clear c9b0
  try clear c11
  try clear c11b0
  try clear hcz10_0
  try clear hcz10_1
  try clear hcz10_2
  try clear hcz10_3
  try clear hcz12_0
  try clear hcz12_1
  try clear hcz12_2
  try clear hcz12_3
  try clear hcz13_0
  try clear hcz13_1
  try clear hcz13_2
  try clear hcz13_3
  try clear hcz14_0
  try clear hcz14_1
  try clear hcz14_2
  try clear hcz14_3
  try clear hcz15_0
  try clear hcz15_1
  try clear hcz15_2
  try clear hcz15_3
  try clear hcz8_0
  try clear hcz8_1
  try clear hcz8_2
  try clear hcz8_3
  try clear hfz10_0
  try clear hfz10_1
  try clear hfz10_2
  try clear hfz10_3
  try clear hfz12_0
  try clear hfz12_1
  try clear hfz12_2
  try clear hfz12_3
  try clear hfz13_0
  try clear hfz13_1
  try clear hfz13_2
  try clear hfz13_3
  try clear hfz14_0
  try clear hfz14_1
  try clear hfz14_2
  try clear hfz14_3
  try clear hfz15_0
  try clear hfz15_1
  try clear hfz15_2
  try clear hfz15_3
  try clear hfz8_0
  try clear hfz8_1
  try clear hfz8_2
  try clear hfz8_3
  obtain ⟨kq, x40_1, rfl, HA, HJ1, BK167, HB⟩ := hcut
  cases kq with
  | zero => exact absurd HA.out (by simp [spec_ViewOk.j0])
  | succ kj1 =>
   have H := HA.out
   clear HA
   simp only [spec_ViewOk.j0] at H
   by_cases c16 : x40_1 = true
   ·subst c16
    have H1 : (some false) = some r := by rw [if_pos rfl] at H; exact H
    clear H
    have H := H1
    clear H1
    obtain rfl := Option.some.inj H
    go_wp2
    repeat (go_quiet (fail); try go_wp2)
    go_ret
    exact ⟨by first | rfl | (simp [errW_none, errW_some] <;> rfl) | (simp [*, errW_none, errW_some] <;> rfl), HBu HB.out⟩
   ·replace c16 := Bool.eq_false_iff.mpr c16
    subst c16
    have H1 : (spec_ViewOk.l0 kj1 0 l0_0 l0_1 a0_2 a0_3) = some r := by rw [if_neg (show ¬ (false = true) by decide)] at H; exact H
    clear H
    have H := H1
    clear H1
    have H' := Aside0.mk H
    clear H
    go_wp2
    repeat (go_quiet (fail); try go_wp2)
    go_loopg [3] kj1 (fun kq v3 w' => ∃ (x3_2 : Int), v3 = .int .i64 x3_2 ∧ Aside0 (spec_ViewOk.l0 kq x3_2 l0_0 l0_1 a0_2 a0_3 = some r) ∧ Aside0 (kq ≤ kj1) ∧ Aside0 (w'.heap[gb167]? = some (.cells #[(.slice A0_0 l0_0.length c0_0), (.slice A0_1 l0_1.length c0_1), .int .i64 a0_2, .int .i64 a0_3] 36 (0, 0))) ∧ Aside0 (Below w.heap.size w w'))
    case atStart => exact ⟨(0), (by first | rfl | (simp; done) | (simp [*]; done)), H', ⟨Nat.le_refl _⟩, ⟨by (with_reducible repeat (first | refine blk_drewN ?_ _ | refine blk_drew ?_ | refine blk_alloc ?_ _)); exact BK167.out⟩, ⟨HBu HB.out⟩⟩
    case round =>
     clear H'
     try clear c1
     try clear p2
     try clear c4
     try clear c5
     try clear c6
     try clear c6b0
     try clear c6b1
     try clear c6b2
     try clear c7
     try clear c7b0
     try clear c9
     try clear c9b0
     try clear c11
     try clear c11b0
     try clear c16
     try clear hcz10_0
     try clear hcz10_1
     try clear hcz10_2
     try clear hcz10_3
     try clear hcz12_0
     try clear hcz12_1
     try clear hcz12_2
     try clear hcz12_3
     try clear hcz13_0
     try clear hcz13_1
     try clear hcz13_2
     try clear hcz13_3
     try clear hcz14_0
     try clear hcz14_1
     try clear hcz14_2
     try clear hcz14_3
     try clear hcz15_0
     try clear hcz15_1
     try clear hcz15_2
     try clear hcz15_3
     try clear hcz8_0
     try clear hcz8_1
     try clear hcz8_2
     try clear hcz8_3
     try clear hfz10_0
     try clear hfz10_1
     try clear hfz10_2
     try clear hfz10_3
     try clear hfz12_0
     try clear hfz12_1
     try clear hfz12_2
     try clear hfz12_3
     try clear hfz13_0
     try clear hfz13_1
     try clear hfz13_2
     try clear hfz13_3
     try clear hfz14_0
     try clear hfz14_1
     try clear hfz14_2
     try clear hfz14_3
     try clear hfz15_0
     try clear hfz15_1
     try clear hfz15_2
     try clear hfz15_3
     try clear hfz8_0
     try clear hfz8_1
     try clear hfz8_2
     try clear hfz8_3
     try clear p2
     obtain ⟨x3_2, rfl, HA, HK2, BK167, HB⟩ := hrel
     cases gk with
     | zero => exact absurd HA.out (by simp [spec_ViewOk.l0])
     | succ k2 =>
      have H := HA.out
      clear HA
      simp only [spec_ViewOk.l0] at H
      by_cases c17 : x3_2 < (l0_1.length : Int)
      ·rw [if_pos c17] at H
       have c17b0 : decide (x3_2 < (l0_1.length : Int)) = true := decide_eq_true c17
       clear c17
       by_cases c18 : 0 ≤ x3_2
       ·rw [if_pos c18] at H
        have c18b0 : decide (0 ≤ x3_2) = true := decide_eq_true c18
        clear c18
        by_cases c19 : (rd l0_1 x3_2) < (-4096)
        ·rw [if_pos c19] at H
         have c19b0 : decide ((rd l0_1 x3_2) < (-4096)) = true := decide_eq_true c19
         clear c19
         obtain rfl := Option.some.inj H
         have hcz20_0 : wr.cell? ⟨gb167, 0, none⟩ = some (.slice A0_0 l0_0.length c0_0) := (blk_cell BK167.out 0).trans rfl
         have hcz20_1 : wr.cell? ⟨gb167, 1, none⟩ = some (.slice A0_1 l0_1.length c0_1) := (blk_cell BK167.out 1).trans rfl
         have hcz20_2 : wr.cell? ⟨gb167, 2, none⟩ = some (.int .i64 a0_2) := (blk_cell BK167.out 2).trans rfl
         have hcz20_3 : wr.cell? ⟨gb167, 3, none⟩ = some (.int .i64 a0_3) := (blk_cell BK167.out 3).trans rfl
         have hfz20_0 := blk_frozen BK167.out 0
         have hfz20_1 := blk_frozen BK167.out 1
         have hfz20_2 := blk_frozen BK167.out 2
         have hfz20_3 := blk_frozen BK167.out 3
         have p169 : 0 ≤ (x3_2 : Int) := of_decide_eq_true (by first | (with_reducible assumption) | assumption)
         have q169 : x3_2 < (l0_1.length : Int) := of_decide_eq_true (by first | (with_reducible assumption) | assumption)
         obtain ⟨ad169, e169, hx169_0⟩ := Kd.at_int HR0_1.out x3_2 p169 q169
         cases e169
         replace hx169_0 := (HB.out.cell (World.block_lt_of_cell? w _ hx169_0)).trans hx169_0
         replace p169 := eq_true p169
         replace q169 := eq_true q169
         go_wp2
         repeat (go_quiet (fail); try go_wp2)
         go_ret
         exact ⟨by first | rfl | (simp [errW_none, errW_some] <;> rfl) | (simp [*, errW_none, errW_some] <;> rfl), HBu HB.out⟩
        ·rw [if_neg c19] at H
         have c19b0 : decide ((rd l0_1 x3_2) < (-4096)) = false := decide_eq_false c19
         clear c19
         by_cases c21 : (rd l0_1 x3_2) > 4096
         ·rw [if_pos c21] at H
          have c21b0 : decide (4096 < (rd l0_1 x3_2)) = true := decide_eq_true c21
          clear c21
          obtain rfl := Option.some.inj H
          have hcz22_0 : wr.cell? ⟨gb167, 0, none⟩ = some (.slice A0_0 l0_0.length c0_0) := (blk_cell BK167.out 0).trans rfl
          have hcz22_1 : wr.cell? ⟨gb167, 1, none⟩ = some (.slice A0_1 l0_1.length c0_1) := (blk_cell BK167.out 1).trans rfl
          have hcz22_2 : wr.cell? ⟨gb167, 2, none⟩ = some (.int .i64 a0_2) := (blk_cell BK167.out 2).trans rfl
          have hcz22_3 : wr.cell? ⟨gb167, 3, none⟩ = some (.int .i64 a0_3) := (blk_cell BK167.out 3).trans rfl
          have hfz22_0 := blk_frozen BK167.out 0
          have hfz22_1 := blk_frozen BK167.out 1
          have hfz22_2 := blk_frozen BK167.out 2
          have hfz22_3 := blk_frozen BK167.out 3
          have p169 : 0 ≤ (x3_2 : Int) := of_decide_eq_true (by first | (with_reducible assumption) | assumption)
          have q169 : x3_2 < (l0_1.length : Int) := of_decide_eq_true (by first | (with_reducible assumption) | assumption)
          obtain ⟨ad169, e169, hx169_0⟩ := Kd.at_int HR0_1.out x3_2 p169 q169
          cases e169
          replace hx169_0 := (HB.out.cell (World.block_lt_of_cell? w _ hx169_0)).trans hx169_0
          replace p169 := eq_true p169
          replace q169 := eq_true q169
          have p170 : 0 ≤ (x3_2 : Int) := of_decide_eq_true (by first | (with_reducible assumption) | assumption)
          have q170 : x3_2 < (l0_1.length : Int) := of_decide_eq_true (by first | (with_reducible assumption) | assumption)
          obtain ⟨ad170, e170, hx170_0⟩ := Kd.at_int HR0_1.out x3_2 p170 q170
          obtain rfl : ad169 = ad170 := (by injection e170)
          replace hx170_0 := (HB.out.cell (World.block_lt_of_cell? w _ hx170_0)).trans hx170_0
          replace p170 := eq_true p170
          replace q170 := eq_true q170
          go_wp2
          repeat (go_quiet (fail); try go_wp2)
          go_ret
          exact ⟨by first | rfl | (simp [errW_none, errW_some] <;> rfl) | (simp [*, errW_none, errW_some] <;> rfl), HBu HB.out⟩
         ·rw [if_neg c21] at H
          have c21b0 : decide (4096 < (rd l0_1 x3_2)) = false := decide_eq_false c21
          clear c21
          have H' := Aside0.mk H
          clear H
          have hcz23_0 : wr.cell? ⟨gb167, 0, none⟩ = some (.slice A0_0 l0_0.length c0_0) := (blk_cell BK167.out 0).trans rfl
          have hcz23_1 : wr.cell? ⟨gb167, 1, none⟩ = some (.slice A0_1 l0_1.length c0_1) := (blk_cell BK167.out 1).trans rfl
          have hcz23_2 : wr.cell? ⟨gb167, 2, none⟩ = some (.int .i64 a0_2) := (blk_cell BK167.out 2).trans rfl
          have hcz23_3 : wr.cell? ⟨gb167, 3, none⟩ = some (.int .i64 a0_3) := (blk_cell BK167.out 3).trans rfl
          have hfz23_0 := blk_frozen BK167.out 0
          have hfz23_1 := blk_frozen BK167.out 1
          have hfz23_2 := blk_frozen BK167.out 2
          have hfz23_3 := blk_frozen BK167.out 3
          have p169 : 0 ≤ (x3_2 : Int) := of_decide_eq_true (by first | (with_reducible assumption) | assumption)
          have q169 : x3_2 < (l0_1.length : Int) := of_decide_eq_true (by first | (with_reducible assumption) | assumption)
          obtain ⟨ad169, e169, hx169_0⟩ := Kd.at_int HR0_1.out x3_2 p169 q169
          cases e169
          replace hx169_0 := (HB.out.cell (World.block_lt_of_cell? w _ hx169_0)).trans hx169_0
          replace p169 := eq_true p169
          replace q169 := eq_true q169
          have p170 : 0 ≤ (x3_2 : Int) := of_decide_eq_true (by first | (with_reducible assumption) | assumption)
          have q170 : x3_2 < (l0_1.length : Int) := of_decide_eq_true (by first | (with_reducible assumption) | assumption)
          obtain ⟨ad170, e170, hx170_0⟩ := Kd.at_int HR0_1.out x3_2 p170 q170
          obtain rfl : ad169 = ad170 := (by injection e170)
          replace hx170_0 := (HB.out.cell (World.block_lt_of_cell? w _ hx170_0)).trans hx170_0
          replace p170 := eq_true p170
          replace q170 := eq_true q170
          go_wp2
          repeat (go_quiet (fail); try go_wp2)
          go_roundg k2
          case measure => have := HJ1.out; have := HK2.out; omega
          case rel => exact ⟨(wrap64 (x3_2 + 1)), (by first | rfl | (simp; done) | (simp [*]; done)), H', ⟨by have := HJ1.out; have := HK2.out; omega⟩, ⟨by (with_reducible repeat (first | refine blk_drewN ?_ _ | refine blk_drew ?_ | refine blk_alloc ?_ _)); exact BK167.out⟩, ⟨HBu HB.out⟩⟩
       ·rw [if_neg c18] at H
        exact absurd H (by simp)
      ·rw [if_neg c17] at H
       have c17b0 : decide (x3_2 < (l0_1.length : Int)) = false := decide_eq_false c17
       clear c17
       replace H := Option.bind_eq_some_iff.mp H
       obtain ⟨t171, A240, H⟩ := H
       replace H : (spec_ViewOk.l1 k2 t171 0 l0_0 l0_1 a0_2 a0_3) = some r := H
       have A24 := Aside0.mk A240
       clear A240
       have H' := Aside0.mk H
       clear H
       have hcz25_0 : wr.cell? ⟨gb167, 0, none⟩ = some (.slice A0_0 l0_0.length c0_0) := (blk_cell BK167.out 0).trans rfl
       have hcz25_1 : wr.cell? ⟨gb167, 1, none⟩ = some (.slice A0_1 l0_1.length c0_1) := (blk_cell BK167.out 1).trans rfl
       have hcz25_2 : wr.cell? ⟨gb167, 2, none⟩ = some (.int .i64 a0_2) := (blk_cell BK167.out 2).trans rfl
       have hcz25_3 : wr.cell? ⟨gb167, 3, none⟩ = some (.int .i64 a0_3) := (blk_cell BK167.out 3).trans rfl
       have hfz25_0 := blk_frozen BK167.out 0
       have hfz25_1 := blk_frozen BK167.out 1
       have hfz25_2 := blk_frozen BK167.out 2
       have hfz25_3 := blk_frozen BK167.out 3
       go_wp2_with (first | (go_at_call 49; (with_reducible refine (spec_l3All.calls k2 _ _ l0_0 _ _ l0_1 a0_2 a0_3 t171 _ ?side1 ?side2 ?side3 ?side4 A24.out).mono ?_); (case side1 => exact (Cu ((Kd.C_below HR0_0.out HB.out)))); (case side2 => exact HC0_0.out); (case side3 => exact (Cu ((Kd.C_below HR0_1.out HB.out)))); (case side4 => exact HC0_1.out); rintro e w26 ⟨v172, rfl, ho0, hb⟩; have HO173 := Aside0.mk (Kd.R_lower ho0 (below_size (HBu HB.out))); replace BK167 := Aside0.mk (Bb BK167.out hb); replace HB := Aside0.mk (below_step (HBu HB.out) hb); (try clear hb); (try clear hb2); (try clear hk); (try clear hi); (try clear ho0)))
       repeat (go_quiet (first | (go_at_call 49; (with_reducible refine (spec_l3All.calls k2 _ _ l0_0 _ _ l0_1 a0_2 a0_3 t171 _ ?side1 ?side2 ?side3 ?side4 A24.out).mono ?_); (case side1 => exact (Cu ((Kd.C_below HR0_0.out HB.out)))); (case side2 => exact HC0_0.out); (case side3 => exact (Cu ((Kd.C_below HR0_1.out HB.out)))); (case side4 => exact HC0_1.out); rintro e w26 ⟨v172, rfl, ho0, hb⟩; have HO173 := Aside0.mk (Kd.R_lower ho0 (below_size (HBu HB.out))); replace BK167 := Aside0.mk (Bb BK167.out hb); replace HB := Aside0.mk (below_step (HBu HB.out) hb); (try clear hb); (try clear hb2); (try clear hk); (try clear hi); (try clear ho0))); try go_wp2_with (first | (go_at_call 49; (with_reducible refine (spec_l3All.calls k2 _ _ l0_0 _ _ l0_1 a0_2 a0_3 t171 _ ?side1 ?side2 ?side3 ?side4 A24.out).mono ?_); (case side1 => exact (Cu ((Kd.C_below HR0_0.out HB.out)))); (case side2 => exact HC0_0.out); (case side3 => exact (Cu ((Kd.C_below HR0_1.out HB.out)))); (case side4 => exact HC0_1.out); rintro e w26 ⟨v172, rfl, ho0, hb⟩; have HO173 := Aside0.mk (Kd.R_lower ho0 (below_size (HBu HB.out))); replace BK167 := Aside0.mk (Bb BK167.out hb); replace HB := Aside0.mk (below_step (HBu HB.out) hb); (try clear hb); (try clear hb2); (try clear hk); (try clear hi); (try clear ho0))))
       go_loopg [5] k2 (fun kq v5 w' => ∃ (x5_3 : Int), v5 = .int .i64 x5_3 ∧ Aside0 (spec_ViewOk.l1 kq t171 x5_3 l0_0 l0_1 a0_2 a0_3 = some r) ∧ Aside0 (kq ≤ k2) ∧ Aside0 (Kd.R (Kd.int .i64) 3 w' w.heap.size (fun _ => True) v172 t171) ∧ Aside0 (w'.heap[gb167]? = some (.cells #[(.slice A0_0 l0_0.length c0_0), (.slice A0_1 l0_1.length c0_1), .int .i64 a0_2, .int .i64 a0_3] 36 (0, 0))) ∧ Aside0 (Below w.heap.size w w'))
       case atStart => exact ⟨(0), (by first | rfl | (simp; done) | (simp [*]; done)), H', ⟨Nat.le_refl _⟩, ⟨by (with_reducible repeat (first | apply Kd.R_alloc | apply Kd.R_drewN | apply Kd.R_drew)); exact HO173.out⟩, ⟨by (with_reducible repeat (first | refine blk_drewN ?_ _ | refine blk_drew ?_ | refine blk_alloc ?_ _)); exact BK167.out⟩, ⟨HBu HB.out⟩⟩
       case round =>
        clear H'
        try clear c1
        try clear p1
        try clear q1
        try clear hx1
        try clear c2
        try clear p2
        try clear c4
        try clear c5
        try clear c6
        try clear c6b0
        try clear c6b1
        try clear c6b2
        try clear p6
        try clear c7
        try clear c7b0
        try clear c9
        try clear c9b0
        try clear c11
        try clear c11b0
        try clear c16
        try clear p16
        try clear q16
        try clear hx16
        try clear c17
        try clear c17b0
        try clear p17
        try clear q17
        try clear hx17
        try clear c18
        try clear c18b0
        try clear c19
        try clear c19b0
        try clear c21
        try clear c21b0
        try clear hcz10_0
        try clear hcz10_1
        try clear hcz10_2
        try clear hcz10_3
        try clear hcz12_0
        try clear hcz12_1
        try clear hcz12_2
        try clear hcz12_3
        try clear hcz13_0
        try clear hcz13_1
        try clear hcz13_2
        try clear hcz13_3
        try clear hcz14_0
        try clear hcz14_1
        try clear hcz14_2
        try clear hcz14_3
        try clear hcz15_0
        try clear hcz15_1
        try clear hcz15_2
        try clear hcz15_3
        try clear hcz20_0
        try clear hcz20_1
        try clear hcz20_2
        try clear hcz20_3
        try clear hcz22_0
        try clear hcz22_1
        try clear hcz22_2
        try clear hcz22_3
        try clear hcz23_0
        try clear hcz23_1
        try clear hcz23_2
        try clear hcz23_3
        try clear hcz25_0
        try clear hcz25_1
        try clear hcz25_2
        try clear hcz25_3
        try clear hcz8_0
        try clear hcz8_1
        try clear hcz8_2
        try clear hcz8_3
        try clear hfz10_0
        try clear hfz10_1
        try clear hfz10_2
        try clear hfz10_3
        try clear hfz12_0
        try clear hfz12_1
        try clear hfz12_2
        try clear hfz12_3
        try clear hfz13_0
        try clear hfz13_1
        try clear hfz13_2
        try clear hfz13_3
        try clear hfz14_0
        try clear hfz14_1
        try clear hfz14_2
        try clear hfz14_3
        try clear hfz15_0
        try clear hfz15_1
        try clear hfz15_2
        try clear hfz15_3
        try clear hfz20_0
        try clear hfz20_1
        try clear hfz20_2
        try clear hfz20_3
        try clear hfz22_0
        try clear hfz22_1
        try clear hfz22_2
        try clear hfz22_3
        try clear hfz23_0
        try clear hfz23_1
        try clear hfz23_2
        try clear hfz23_3
        try clear hfz25_0
        try clear hfz25_1
        try clear hfz25_2
        try clear hfz25_3
        try clear hfz8_0
        try clear hfz8_1
        try clear hfz8_2
        try clear hfz8_3
        try clear hx169_0
        try clear hx170_0
        try clear p169
        try clear p170
        try clear p2
        try clear q169
        try clear q170
        obtain ⟨x5_3, rfl, HA, HK3, HO_4, BK167, HB⟩ := hrel
        cases gk with
        | zero => exact absurd HA.out (by simp [spec_ViewOk.l1])
        | succ k3 =>
         have H := HA.out
         clear HA
         simp only [spec_ViewOk.l1] at H
         by_cases c27 : x5_3 < (t171.length : Int)
         ·rw [if_pos c27] at H
          have c27b0 : decide (x5_3 < (t171.length : Int)) = true := decide_eq_true c27
          clear c27
          by_cases c28 : 0 ≤ x5_3
          ·rw [if_pos c28] at H
           have c28b0 : decide (0 ≤ x5_3) = true := decide_eq_true c28
           clear c28
           by_cases c29 : (rd t171 x5_3) < 0
           ·rw [if_pos c29] at H
            have c29b0 : decide ((rd t171 x5_3) < 0) = true := decide_eq_true c29
            clear c29
            obtain rfl := Option.some.inj H
            obtain ⟨Ao30, co30, eo30⟩ := Kd.R_slice HO_4.out
            subst eo30
            have p174 : 0 ≤ (x5_3 : Int) := of_decide_eq_true (by first | (with_reducible assumption) | assumption)
            have q174 : x5_3 < (t171.length : Int) := of_decide_eq_true (by first | (with_reducible assumption) | assumption)
            obtain ⟨ad174, e174, hx174_0⟩ := Kd.at_int (Kd.R_reads' HO_4.out).2.2 x5_3 p174 q174
            cases e174
            replace p174 := eq_true p174
            replace q174 := eq_true q174
            go_wp2
            repeat (go_quiet (fail); try go_wp2)
            go_ret
            exact ⟨by first | rfl | (simp [errW_none, errW_some] <;> rfl) | (simp [*, errW_none, errW_some] <;> rfl), HBu HB.out⟩
           ·rw [if_neg c29] at H
            have c29b0 : decide ((rd t171 x5_3) < 0) = false := decide_eq_false c29
            clear c29
            by_cases c31 : (rd t171 x5_3) ≥ a0_3
            ·rw [if_pos c31] at H
             have c31b0 : decide (a0_3 ≤ (rd t171 x5_3)) = true := decide_eq_true c31
             clear c31
             obtain rfl := Option.some.inj H
             obtain ⟨Ao32, co32, eo32⟩ := Kd.R_slice HO_4.out
             subst eo32
             have p174 : 0 ≤ (x5_3 : Int) := of_decide_eq_true (by first | (with_reducible assumption) | assumption)
             have q174 : x5_3 < (t171.length : Int) := of_decide_eq_true (by first | (with_reducible assumption) | assumption)
             obtain ⟨ad174, e174, hx174_0⟩ := Kd.at_int (Kd.R_reads' HO_4.out).2.2 x5_3 p174 q174
             cases e174
             replace p174 := eq_true p174
             replace q174 := eq_true q174
             have p175 : 0 ≤ (x5_3 : Int) := of_decide_eq_true (by first | (with_reducible assumption) | assumption)
             have q175 : x5_3 < (t171.length : Int) := of_decide_eq_true (by first | (with_reducible assumption) | assumption)
             obtain ⟨ad175, e175, hx175_0⟩ := Kd.at_int (Kd.R_reads' HO_4.out).2.2 x5_3 p175 q175
             obtain rfl : ad174 = ad175 := (by injection e175)
             replace p175 := eq_true p175
             replace q175 := eq_true q175
             have hcz33_0 : wr.cell? ⟨gb167, 0, none⟩ = some (.slice A0_0 l0_0.length c0_0) := (blk_cell BK167.out 0).trans rfl
             have hcz33_1 : wr.cell? ⟨gb167, 1, none⟩ = some (.slice A0_1 l0_1.length c0_1) := (blk_cell BK167.out 1).trans rfl
             have hcz33_2 : wr.cell? ⟨gb167, 2, none⟩ = some (.int .i64 a0_2) := (blk_cell BK167.out 2).trans rfl
             have hcz33_3 : wr.cell? ⟨gb167, 3, none⟩ = some (.int .i64 a0_3) := (blk_cell BK167.out 3).trans rfl
             have hfz33_0 := blk_frozen BK167.out 0
             have hfz33_1 := blk_frozen BK167.out 1
             have hfz33_2 := blk_frozen BK167.out 2
             have hfz33_3 := blk_frozen BK167.out 3
             go_wp2
             repeat (go_quiet (fail); try go_wp2)
             go_ret
             exact ⟨by first | rfl | (simp [errW_none, errW_some] <;> rfl) | (simp [*, errW_none, errW_some] <;> rfl), HBu HB.out⟩
            ·rw [if_neg c31] at H
             have c31b0 : decide (a0_3 ≤ (rd t171 x5_3)) = false := decide_eq_false c31
             clear c31
             have H' := Aside0.mk H
             clear H
             obtain ⟨Ao34, co34, eo34⟩ := Kd.R_slice HO_4.out
             subst eo34
             have p174 : 0 ≤ (x5_3 : Int) := of_decide_eq_true (by first | (with_reducible assumption) | assumption)
             have q174 : x5_3 < (t171.length : Int) := of_decide_eq_true (by first | (with_reducible assumption) | assumption)
             obtain ⟨ad174, e174, hx174_0⟩ := Kd.at_int (Kd.R_reads' HO_4.out).2.2 x5_3 p174 q174
             cases e174
             replace p174 := eq_true p174
             replace q174 := eq_true q174
             have p175 : 0 ≤ (x5_3 : Int) := of_decide_eq_true (by first | (with_reducible assumption) | assumption)
             have q175 : x5_3 < (t171.length : Int) := of_decide_eq_true (by first | (with_reducible assumption) | assumption)
             obtain ⟨ad175, e175, hx175_0⟩ := Kd.at_int (Kd.R_reads' HO_4.out).2.2 x5_3 p175 q175
             obtain rfl : ad174 = ad175 := (by injection e175)
             replace p175 := eq_true p175
             replace q175 := eq_true q175
             have hcz35_0 : wr.cell? ⟨gb167, 0, none⟩ = some (.slice A0_0 l0_0.length c0_0) := (blk_cell BK167.out 0).trans rfl
             have hcz35_1 : wr.cell? ⟨gb167, 1, none⟩ = some (.slice A0_1 l0_1.length c0_1) := (blk_cell BK167.out 1).trans rfl
             have hcz35_2 : wr.cell? ⟨gb167, 2, none⟩ = some (.int .i64 a0_2) := (blk_cell BK167.out 2).trans rfl
             have hcz35_3 : wr.cell? ⟨gb167, 3, none⟩ = some (.int .i64 a0_3) := (blk_cell BK167.out 3).trans rfl
             have hfz35_0 := blk_frozen BK167.out 0
             have hfz35_1 := blk_frozen BK167.out 1
             have hfz35_2 := blk_frozen BK167.out 2
             have hfz35_3 := blk_frozen BK167.out 3
             go_wp2
             repeat (go_quiet (fail); try go_wp2)
             go_roundg k3
             case measure => have := HJ1.out; have := HK2.out; have := HK3.out; omega
             case rel => exact ⟨(wrap64 (x5_3 + 1)), (by first | rfl | (simp; done) | (simp [*]; done)), H', ⟨by have := HJ1.out; have := HK2.out; have := HK3.out; omega⟩, ⟨by (with_reducible repeat (first | apply Kd.R_alloc | apply Kd.R_drewN | apply Kd.R_drew)); exact HO_4.out⟩, ⟨by (with_reducible repeat (first | refine blk_drewN ?_ _ | refine blk_drew ?_ | refine blk_alloc ?_ _)); exact BK167.out⟩, ⟨HBu HB.out⟩⟩
          ·rw [if_neg c28] at H
           exact absurd H (by simp)
         ·rw [if_neg c27] at H
          have c27b0 : decide (x5_3 < (t171.length : Int)) = false := decide_eq_false c27
          clear c27
          obtain rfl := Option.some.inj H
          obtain ⟨Ao36, co36, eo36⟩ := Kd.R_slice HO_4.out
          subst eo36
          go_wp2
          repeat (go_quiet (fail); try go_wp2)
          go_ret
          exact ⟨by first | rfl | (simp [errW_none, errW_some] <;> rfl) | (simp [*, errW_none, errW_some] <;> rfl), HBu HB.out⟩

/-! ### spec_l3Ints: function 48 -/
def spec_l3Ints.f (l0 : List Int) : Option (List Int) := (some (([] : List Int) : List Int)).bind fun y176 => (if y176.length + l0.length < 17592186044416 then (some (y176 ++ l0)) else (none))
set_option maxHeartbeats 8000000 in
set_option maxRecDepth 100000 in
theorem spec_l3Ints.calls (A0 : Option Addr) (c0 : Nat) (l0 : List Int) (r : List Int) (w : World) (hr0 : Kd.C (Kd.int .i64) w A0 l0.length l0) (hc0 : l0.length ≤ c0) (h : spec_l3Ints.f l0 = some r) :
  Calls Try.prog 48 #[.slice A0 l0.length c0] w fun e w' => ∃ v0_ : Value, e = .returned (v0_) ∧ Kd.R (Kd.int .i64) 3 w' w.heap.size (fun _ => True) v0_ r ∧ Below w.heap.size w w' := by
 have HR0 := Aside0.mk hr0
 have HC0 := Aside0.mk hc0
 clear hr0 hc0
 have HB := Aside0.mk (Below.refl w.heap.size w)
 have H : ((some (([] : List Int) : List Int)).bind fun y176 => (if y176.length + l0.length < 17592186044416 then (some (y176 ++ l0)) else (none))) = some r := h
 clear h
 obtain ⟨y176, hy176⟩ : ∃ y_ : List Int, y_ = (([] : List Int)) := ⟨_, rfl⟩
 replace H : (if y176.length + l0.length < 17592186044416 then (some (y176 ++ l0)) else (none)) = some r := by first | (rw [hy176]; with_reducible exact H) | (have H2_ := (Option.bind_some _ _).symm.trans H; rw [hy176]; with_reducible exact H2_) | (have H2_ := (Option.bind_some _ _).symm.trans H; with_reducible exact H2_) | with_reducible exact H | (rw [hy176]; exact H) | exact H
 have Ny176 := Aside0.mk hy176
 clear hy176
 by_cases c2 : y176.length + l0.length < 17592186044416
 ·rw [if_pos c2] at H
  have LMc2 := Aside0.mk c2
  clear c2
  obtain ⟨y179, hy179⟩ : ∃ y_ : List Int, y_ = (y176 ++ l0) := ⟨_, rfl⟩
  replace H : (some y179) = some r := by first | (rw [hy179]; with_reducible exact H) | (have H2_ := (Option.bind_some _ _).symm.trans H; rw [hy179]; with_reducible exact H2_) | (have H2_ := (Option.bind_some _ _).symm.trans H; with_reducible exact H2_) | with_reducible exact H | (rw [hy179]; exact H) | exact H
  have Ny179 := Aside0.mk hy179
  clear hy179
  obtain rfl := Option.some.inj H
  go_enter Try.func48, Try.ntmps48
  go_wp2_with (first | ((with_reducible refine gate_dst (N := 3) rfl ?_); refine Kd.R_lit (Kd.int .i64) _ 3 ?hg (N := 3) ?hd (xs := ([] : List Int)) (inner := []) (ok := fun _ => True) (okp := fun _ => True) ?hr ?hp (fun _ hk => hk) trivial (Below.refl _ _) (Nat.le_refl _) (by simp) ?_; (case hd => rfl); (case hg => rfl); (case hr => first | (go_simp; done) | (go_simp; rfl)); (case hp => exact (Reps.none _ _)); intro v177 w3 ho4 hb hg_ hnew_; clear hg_ hnew_; (first | rw [← Ny176.out] at ho4 | (simp only [Int.reduceToNat] at ho4; rw [← Ny176.out] at ho4)); have HO178 := Aside0.mk (Kd.R_lower ho4 (below_size (Hu HB.out))); replace HB := Aside0.mk (below_step (Hu HB.out) hb); clear hb ho4) | ((with_reducible refine gate_builtin (b := .append) (xs := #[.tmp 3, .tmp 4]) rfl ?_); at_builtin; refine Kd.R_append_rows (Kd.int .i64) (w0 := w) w.heap.size rfl (.tmp 3) (.tmp 4) 22 3 (.int .i64 0) 8 rfl Try.underlying22 info3 rfl (by decide) (by omega) v177 y176 l0 _ _ _ (fun _ => True) (fun _ => False) rfl rfl ?aO ?aR (fun _ _ h => h) (fun _ h => h.elim) ?aF ?aB ?aS ?aL ?_; (case aR => exact (Cu ((Kd.C_below HR0.out HB.out)))); (case aB => exact (Hu HB.out)); (case aF => exact (fun _ _ => trivial)); (case aO => exact (Ru HO178.out)); (case aS => exact (below_size (Hu HB.out))); (case aL => have := LMc2.out; omega); intro v180 w5 ho hb hg hat; rw [← Ny179.out] at ho; have n0_ := Aside0.mk (hb); have n1_ := Aside0.mk (ho); clear HB; clear HO178; have HB := n0_; have HO181 := n1_; clear n0_ n1_; clear ho hb hg hat))
  go_ret
  exact ⟨_, by first | rfl | (simp [errW_none, errW_some] <;> rfl) | (simp [*, errW_none, errW_some] <;> rfl), by (with_reducible repeat (first | apply Kd.R_alloc | apply Kd.R_drewN | apply Kd.R_drew)); exact HO181.out, HBu HB.out⟩
 ·rw [if_neg c2] at H
  exact absurd H (by simp)

end Go.Proofs.Ytcpemdedmepfeac.PFnExactLook
