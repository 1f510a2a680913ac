-- Printed out of the translation, hand-written contracts beside it; checked by the kernel alone.
import Derived.Test.YtcpemdedmepfeacPFnExactLookx0
import Derived.Test.YtcpemdedmepfeacPFnExactLookx6
namespace Go.Proofs.Ytcpemdedmepfeac.PFnExactLook
open Go.RowKit Go.Proofs.YtcpemdedmepfeacW.PrintWords Go.Proofs.YtcpemdedmepfeacW.PrintLast Go.Proofs.YtcpemdedmepfeacW.PrintMore
attribute [local go_sem] max2_int min2_int max_two min_two max_three min_three max_four min_four   -- for this text's walks alone
set_option linter.unusedVariables false
set_option linter.unusedSimpArgs false

/-! ### impl_ViewOk: function 50 -/
mutual
def impl_ViewOk.j0 : Nat → Bool → List Int → List Int → Int → Int → Option (Bool)
 | 0, _, _, _, _, _ => none
 | k + 1, x41, x217000, x217001, x217002, x217003 => if x41 = true then (some false) else (impl_ViewOk.l0 k x217002 x217002 x217001 (x217001.length : Int) 0 x217000 x217001 x217002 x217003)
def impl_ViewOk.l0 : Nat → Int → Int → List Int → Int → Int → List Int → List Int → Int → Int → Option (Bool)
 | 0, _, _, _, _, _, _, _, _, _ => none
 | k + 1, x3, x4, x47, x48, x49, x217000, x217001, x217002, x217003 => if x49 < x48 then (if 0 ≤ x49 then (if x49 < (x47.length : Int) then (if (rd x47 x49) < (-4096) then (some false) else (if (rd x47 x49) > 4096 then (some false) else (if x49 < (x217000.length : Int) then (impl_ViewOk.l0 k (wrap64 (x3 + (mn 0 (wrap64 ((rd x47 x49) * (wrap64 ((rd x217000 x49) - 1))))))) (wrap64 (x4 + (mx 0 (wrap64 ((rd x47 x49) * (wrap64 ((rd x217000 x49) - 1))))))) x47 x48 (wrap64 (x49 + 1)) x217000 x217001 x217002 x217003) else (none)))) else (none)) else (none)) else (if x3 ≥ 0 then (some (decide (x4 < x217003))) else (some false))
end
def impl_ViewOk.f (k : Nat) (l0_0 : List Int) (l0_1 : List Int) (a0_2 : Int) (a0_3 : Int) : Option (Bool) := (impl_DimsOk.f k l0_0).bind fun t217 => (if t217 = true then (if (l0_1.length : Int) = (l0_0.length : Int) then (if a0_3 < 1 then (impl_ViewOk.j0 k true l0_0 l0_1 a0_2 a0_3) else (if a0_3 > 4096 then (impl_ViewOk.j0 k true l0_0 l0_1 a0_2 a0_3) else (if a0_2 < 0 then (impl_ViewOk.j0 k true l0_0 l0_1 a0_2 a0_3) else (impl_ViewOk.j0 k (decide (a0_2 ≥ a0_3)) l0_0 l0_1 a0_2 a0_3)))) else (impl_ViewOk.j0 k true l0_0 l0_1 a0_2 a0_3)) else (impl_ViewOk.j0 k true l0_0 l0_1 a0_2 a0_3))
theorem impl_ViewOk.mono_l : ∀ k, (∀ y0 y1 y2 y3 y4, LeO (impl_ViewOk.j0 k y0 y1 y2 y3 y4) (impl_ViewOk.j0 (k + 1) y0 y1 y2 y3 y4)) ∧ (∀ y0 y1 y2 y3 y4 y5 y6 y7 y8, LeO (impl_ViewOk.l0 k y0 y1 y2 y3 y4 y5 y6 y7 y8) (impl_ViewOk.l0 (k + 1) y0 y1 y2 y3 y4 y5 y6 y7 y8))
 | 0 => ⟨fun _ _ _ _ _ r h => by simp [impl_ViewOk.j0] at h, fun _ _ _ _ _ _ _ _ _ r h => by simp [impl_ViewOk.l0] at h⟩
 | k + 1 => by
  obtain ⟨ih0, ih1⟩ := impl_ViewOk.mono_l k
  refine ⟨?_, ?_⟩
  ·intro y0 y1 y2 y3 y4
   unfold impl_ViewOk.j0
   repeat' first
   | (with_reducible exact ih0 _ _ _ _ _)
   | (with_reducible exact ih1 _ _ _ _ _ _ _ _ _)
   | (with_reducible exact impl_DimsOk.mono _ _)
   | (with_reducible exact LeO.refl _)
   | (with_reducible exact LeO.none _)
   | (with_reducible refine LeO.ite ?_ ?_)
   | (with_reducible refine LeO.bind ?_ (fun _ => ?_))
   | exact ih0 _ _ _ _ _
   | exact ih1 _ _ _ _ _ _ _ _ _
   | exact impl_DimsOk.mono _ _
   | exact LeO.none _
   | refine LeO.ite ?_ ?_
   | refine LeO.bind ?_ (fun _ => ?_)
  ·intro y0 y1 y2 y3 y4 y5 y6 y7 y8
   unfold impl_ViewOk.l0
   repeat' first
   | (with_reducible exact ih0 _ _ _ _ _)
   | (with_reducible exact ih1 _ _ _ _ _ _ _ _ _)
   | (with_reducible exact impl_DimsOk.mono _ _)
   | (with_reducible exact LeO.refl _)
   | (with_reducible exact LeO.none _)
   | (with_reducible refine LeO.ite ?_ ?_)
   | (with_reducible refine LeO.bind ?_ (fun _ => ?_))
   | exact ih0 _ _ _ _ _
   | exact ih1 _ _ _ _ _ _ _ _ _
   | exact impl_DimsOk.mono _ _
   | exact LeO.none _
   | refine LeO.ite ?_ ?_
   | refine LeO.bind ?_ (fun _ => ?_)
theorem impl_ViewOk.mono : ∀ a0 a1 a2 a3 k, LeO (impl_ViewOk.f k a0 a1 a2 a3) (impl_ViewOk.f (k + 1) a0 a1 a2 a3) := by
 intro a0 a1 a2 a3 k
 obtain ⟨ih0, ih1⟩ := impl_ViewOk.mono_l k
 unfold impl_ViewOk.f
 repeat' first
   | (with_reducible exact ih0 _ _ _ _ _)
   | (with_reducible exact ih1 _ _ _ _ _ _ _ _ _)
   | (with_reducible exact impl_DimsOk.mono _ _)
   | (with_reducible exact LeO.refl _)
   | (with_reducible exact LeO.none _)
   | (with_reducible refine LeO.ite ?_ ?_)
   | (with_reducible refine LeO.bind ?_ (fun _ => ?_))
   | exact ih0 _ _ _ _ _
   | exact ih1 _ _ _ _ _ _ _ _ _
   | exact impl_DimsOk.mono _ _
   | exact LeO.none _
   | refine LeO.ite ?_ ?_
   | refine LeO.bind ?_ (fun _ => ?_)
set_option maxHeartbeats 8000000 in
set_option maxRecDepth 100000 in
theorem impl_ViewOk.calls (k : Nat) (A0_0 : Option Addr) (c0_0 : Nat) (l0_0 : List Int) (A0_1 : Option Addr) (c0_1 : Nat) (l0_1 : List Int) (a0_2 : Int) (a0_3 : Int) (r : Bool) (w : World) (hr0_0 : Kd.C (Kd.int .i64) w A0_0 l0_0.length l0_0) (hc0_0 : l0_0.length ≤ c0_0) (hr0_1 : Kd.C (Kd.int .i64) w A0_1 l0_1.length l0_1) (hc0_1 : l0_1.length ≤ c0_1) (h : impl_ViewOk.f k l0_0 l0_1 a0_2 a0_3 = some r) :
  Calls Try.prog 50 #[.agg #[.slice A0_0 l0_0.length c0_0, .slice A0_1 l0_1.length c0_1, .int .i64 a0_2, .int .i64 a0_3]] w fun e w' => e = .returned (.bool r) ∧ Below w.heap.size w w' := by
 have hu36 := Try.underlying36
 have HR0_0 := Aside0.mk hr0_0
 have HC0_0 := Aside0.mk hc0_0
 clear hr0_0 hc0_0
 have HR0_1 := Aside0.mk hr0_1
 have HC0_1 := Aside0.mk hc0_1
 clear hr0_1 hc0_1
 have HB := Aside0.mk (Below.refl w.heap.size w)
 have H : ((impl_DimsOk.f k l0_0).bind fun t217 => (if t217 = true then (if (l0_1.length : Int) = (l0_0.length : Int) then (if a0_3 < 1 then (impl_ViewOk.j0 k true l0_0 l0_1 a0_2 a0_3) else (if a0_3 > 4096 then (impl_ViewOk.j0 k true l0_0 l0_1 a0_2 a0_3) else (if a0_2 < 0 then (impl_ViewOk.j0 k true l0_0 l0_1 a0_2 a0_3) else (impl_ViewOk.j0 k (decide (a0_2 ≥ a0_3)) l0_0 l0_1 a0_2 a0_3)))) else (impl_ViewOk.j0 k true l0_0 l0_1 a0_2 a0_3)) else (impl_ViewOk.j0 k true l0_0 l0_1 a0_2 a0_3))) = some r := h
 clear h
 have HC2 := Aside0.mk H
 clear H
 go_enter Try.func50, Try.ntmps50
 go_upto_region 1 with (first | ((with_reducible refine gate_dst (N := 1) rfl ?_); (try (refine gate_guard (by rfl) ?_; dsimp only)); refine box_event ?hg (N := 1) ?hd (cs := #[.slice A0_0 l0_0.length c0_0, .slice A0_1 l0_1.length c0_1, .int .i64 a0_2, .int .i64 a0_3]) (t := 36) ?hr ?_; (case hd => rfl); (case hg => rfl); (case hr => first | (go_simp; done) | (go_simp; rfl)); intro gb216 hg w3 hbox hb; have BK216 := Aside0.mk (hbox); have GW216 := Aside0.mk ((by rw [hg]; exact (below_size (Hu HB.out)) : w.heap.size ≤ gb216)); have GE216 := Aside0.mk ((by rw [hg]; exact (below_size (Hu HB.out)) : w.heap.size ≤ gb216)); replace HB := Aside0.mk (below_step (Hu HB.out) hb); clear hb hbox hg))
 repeat (go_quiet (first | ((with_reducible refine gate_dst (N := 1) rfl ?_); (try (refine gate_guard (by rfl) ?_; dsimp only)); refine box_event ?hg (N := 1) ?hd (cs := #[.slice A0_0 l0_0.length c0_0, .slice A0_1 l0_1.length c0_1, .int .i64 a0_2, .int .i64 a0_3]) (t := 36) ?hr ?_; (case hd => rfl); (case hg => rfl); (case hr => first | (go_simp; done) | (go_simp; rfl)); intro gb216 hg w3 hbox hb; have BK216 := Aside0.mk (hbox); have GW216 := Aside0.mk ((by rw [hg]; exact (below_size (Hu HB.out)) : w.heap.size ≤ gb216)); have GE216 := Aside0.mk ((by rw [hg]; exact (below_size (Hu HB.out)) : w.heap.size ≤ gb216)); replace HB := Aside0.mk (below_step (Hu HB.out) hb); clear hb hbox hg)); go_upto_region 1 with (first | ((with_reducible refine gate_dst (N := 1) rfl ?_); (try (refine gate_guard (by rfl) ?_; dsimp only)); refine box_event ?hg (N := 1) ?hd (cs := #[.slice A0_0 l0_0.length c0_0, .slice A0_1 l0_1.length c0_1, .int .i64 a0_2, .int .i64 a0_3]) (t := 36) ?hr ?_; (case hd => rfl); (case hg => rfl); (case hr => first | (go_simp; done) | (go_simp; rfl)); intro gb216 hg w3 hbox hb; have BK216 := Aside0.mk (hbox); have GW216 := Aside0.mk ((by rw [hg]; exact (below_size (Hu HB.out)) : w.heap.size ≤ gb216)); have GE216 := Aside0.mk ((by rw [hg]; exact (below_size (Hu HB.out)) : w.heap.size ≤ gb216)); replace HB := Aside0.mk (below_step (Hu HB.out) hb); clear hb hbox hg)))
 (try simp only [Act.put, List.setIfInBounds_toArray, List.set_cons_zero, List.set_cons_succ])
 go_cut [41] (fun v41 wc => ∃ (kq : Nat) (x41_1 : Bool), v41 = .bool x41_1 ∧ Aside0 (impl_ViewOk.j0 kq x41_1 l0_0 l0_1 a0_2 a0_3 = some r) ∧ Aside0 (kq ≤ k) ∧ Aside0 (wc.heap[gb216]? = some (.cells #[(.slice A0_0 l0_0.length c0_0), (.slice A0_1 l0_1.length c0_1), .int .i64 a0_2, .int .i64 a0_3] 36 (0, 0))) ∧ Aside0 (Below w.heap.size w wc))
 case first =>
  have H := HC2.out
  clear HC2
  replace H := Option.bind_eq_some_iff.mp H
  obtain ⟨t217, A40, H⟩ := H
  replace H : (if t217 = true then (if (l0_1.length : Int) = (l0_0.length : Int) then (if a0_3 < 1 then (impl_ViewOk.j0 k true l0_0 l0_1 a0_2 a0_3) else (if a0_3 > 4096 then (impl_ViewOk.j0 k true l0_0 l0_1 a0_2 a0_3) else (if a0_2 < 0 then (impl_ViewOk.j0 k true l0_0 l0_1 a0_2 a0_3) else (impl_ViewOk.j0 k (decide (a0_2 ≥ a0_3)) l0_0 l0_1 a0_2 a0_3)))) else (impl_ViewOk.j0 k true l0_0 l0_1 a0_2 a0_3)) else (impl_ViewOk.j0 k true l0_0 l0_1 a0_2 a0_3)) = some r := H
  have A4 := Aside0.mk A40
  clear A40
  by_cases c5 : t217 = true
  ·subst c5
   have H1 : (if (l0_1.length : Int) = (l0_0.length : Int) then (if a0_3 < 1 then (impl_ViewOk.j0 k true l0_0 l0_1 a0_2 a0_3) else (if a0_3 > 4096 then (impl_ViewOk.j0 k true l0_0 l0_1 a0_2 a0_3) else (if a0_2 < 0 then (impl_ViewOk.j0 k true l0_0 l0_1 a0_2 a0_3) else (impl_ViewOk.j0 k (decide (a0_2 ≥ a0_3)) l0_0 l0_1 a0_2 a0_3)))) else (impl_ViewOk.j0 k true l0_0 l0_1 a0_2 a0_3)) = some r := by rw [if_pos rfl] at H; exact H
   clear H
   have H := H1
   clear H1
   by_cases c6 : (l0_1.length : Int) = (l0_0.length : Int)
   ·rw [if_pos c6] at H
    have c6b0 : ((l0_1.length : Int) == (l0_0.length : Int)) = true := beq_iff_eq.mpr c6
    have c6b1 : ((l0_1.length : Int) != (l0_0.length : Int)) = false := bne_eq_false_iff_eq.mpr c6
    have c6b2 : (l0_1.length == l0_0.length) = true := by first | simpa using c6 | (simp at c6 ⊢; omega)
    clear c6
    (first | rw [c6b0] | (simp only [i64_w, i32_w]; rw [c6b0]) | skip)
    by_cases c7 : a0_3 < 1
    ·rw [if_pos c7] at H
     have c7b0 : decide (a0_3 < 1) = true := decide_eq_true c7
     clear c7
     have H' := Aside0.mk H
     clear H
     have hcz8_0 : w3.cell? ⟨gb216, 0, none⟩ = some (.slice A0_0 l0_0.length c0_0) := (blk_cell BK216.out 0).trans rfl
     have hcz8_1 : w3.cell? ⟨gb216, 1, none⟩ = some (.slice A0_1 l0_1.length c0_1) := (blk_cell BK216.out 1).trans rfl
     have hcz8_2 : w3.cell? ⟨gb216, 2, none⟩ = some (.int .i64 a0_2) := (blk_cell BK216.out 2).trans rfl
     have hcz8_3 : w3.cell? ⟨gb216, 3, none⟩ = some (.int .i64 a0_3) := (blk_cell BK216.out 3).trans rfl
     have hfz8_0 := blk_frozen BK216.out 0
     have hfz8_1 := blk_frozen BK216.out 1
     have hfz8_2 := blk_frozen BK216.out 2
     have hfz8_3 := blk_frozen BK216.out 3
     go_wp2_with (first | (go_at_call 57; (with_reducible refine (impl_DimsOk.calls k _ _ l0_0 true _ ?side1 ?side2 A4.out).mono ?_); (case side1 => exact (Cu ((Kd.C_below HR0_0.out HB.out)))); (case side2 => exact HC0_0.out); rintro e w' ⟨rfl, ⟨nd, rfl⟩⟩; (try first | exact ⟨rfl, _, World.drewN_drewN _ _ _⟩ | exact ⟨rfl, _, Eq.trans (World.drewN_drewN _ _ _) (congrArg (World.drewN _) (Nat.add_assoc _ _ _))⟩)))
     repeat (go_quiet (first | (go_at_call 57; (with_reducible refine (impl_DimsOk.calls k _ _ l0_0 true _ ?side1 ?side2 A4.out).mono ?_); (case side1 => exact (Cu ((Kd.C_below HR0_0.out HB.out)))); (case side2 => exact HC0_0.out); rintro e w' ⟨rfl, ⟨nd, rfl⟩⟩; (try first | exact ⟨rfl, _, World.drewN_drewN _ _ _⟩ | exact ⟨rfl, _, Eq.trans (World.drewN_drewN _ _ _) (congrArg (World.drewN _) (Nat.add_assoc _ _ _))⟩))); try go_wp2_with (first | (go_at_call 57; (with_reducible refine (impl_DimsOk.calls k _ _ l0_0 true _ ?side1 ?side2 A4.out).mono ?_); (case side1 => exact (Cu ((Kd.C_below HR0_0.out HB.out)))); (case side2 => exact HC0_0.out); rintro e w' ⟨rfl, ⟨nd, rfl⟩⟩; (try first | exact ⟨rfl, _, World.drewN_drewN _ _ _⟩ | exact ⟨rfl, _, Eq.trans (World.drewN_drewN _ _ _) (congrArg (World.drewN _) (Nat.add_assoc _ _ _))⟩))))
     go_meet
     case rel => exact ⟨_, (true), (by first | rfl | (simp; done) | (simp [*]; done)), H', ⟨by first | omega | exact Nat.le_refl _⟩, ⟨by (with_reducible repeat (first | refine blk_drewN ?_ _ | refine blk_drew ?_ | refine blk_alloc ?_ _)); exact BK216.out⟩, ⟨HBu HB.out⟩⟩
    ·rw [if_neg c7] at H
     have c7b0 : decide (a0_3 < 1) = false := decide_eq_false c7
     clear c7
     by_cases c9 : a0_3 > 4096
     ·rw [if_pos c9] at H
      have c9b0 : decide (4096 < a0_3) = true := decide_eq_true c9
      clear c9
      have H' := Aside0.mk H
      clear H
      have hcz10_0 : w3.cell? ⟨gb216, 0, none⟩ = some (.slice A0_0 l0_0.length c0_0) := (blk_cell BK216.out 0).trans rfl
      have hcz10_1 : w3.cell? ⟨gb216, 1, none⟩ = some (.slice A0_1 l0_1.length c0_1) := (blk_cell BK216.out 1).trans rfl
      have hcz10_2 : w3.cell? ⟨gb216, 2, none⟩ = some (.int .i64 a0_2) := (blk_cell BK216.out 2).trans rfl
      have hcz10_3 : w3.cell? ⟨gb216, 3, none⟩ = some (.int .i64 a0_3) := (blk_cell BK216.out 3).trans rfl
      have hfz10_0 := blk_frozen BK216.out 0
      have hfz10_1 := blk_frozen BK216.out 1
      have hfz10_2 := blk_frozen BK216.out 2
      have hfz10_3 := blk_frozen BK216.out 3
      go_wp2_with (first | (go_at_call 57; (with_reducible refine (impl_DimsOk.calls k _ _ l0_0 true _ ?side1 ?side2 A4.out).mono ?_); (case side1 => exact (Cu ((Kd.C_below HR0_0.out HB.out)))); (case side2 => exact HC0_0.out); rintro e w' ⟨rfl, ⟨nd, rfl⟩⟩; (try first | exact ⟨rfl, _, World.drewN_drewN _ _ _⟩ | exact ⟨rfl, _, Eq.trans (World.drewN_drewN _ _ _) (congrArg (World.drewN _) (Nat.add_assoc _ _ _))⟩)))
      repeat (go_quiet (first | (go_at_call 57; (with_reducible refine (impl_DimsOk.calls k _ _ l0_0 true _ ?side1 ?side2 A4.out).mono ?_); (case side1 => exact (Cu ((Kd.C_below HR0_0.out HB.out)))); (case side2 => exact HC0_0.out); rintro e w' ⟨rfl, ⟨nd, rfl⟩⟩; (try first | exact ⟨rfl, _, World.drewN_drewN _ _ _⟩ | exact ⟨rfl, _, Eq.trans (World.drewN_drewN _ _ _) (congrArg (World.drewN _) (Nat.add_assoc _ _ _))⟩))); try go_wp2_with (first | (go_at_call 57; (with_reducible refine (impl_DimsOk.calls k _ _ l0_0 true _ ?side1 ?side2 A4.out).mono ?_); (case side1 => exact (Cu ((Kd.C_below HR0_0.out HB.out)))); (case side2 => exact HC0_0.out); rintro e w' ⟨rfl, ⟨nd, rfl⟩⟩; (try first | exact ⟨rfl, _, World.drewN_drewN _ _ _⟩ | exact ⟨rfl, _, Eq.trans (World.drewN_drewN _ _ _) (congrArg (World.drewN _) (Nat.add_assoc _ _ _))⟩))))
      go_meet
      case rel => exact ⟨_, (true), (by first | rfl | (simp; done) | (simp [*]; done)), H', ⟨by first | omega | exact Nat.le_refl _⟩, ⟨by (with_reducible repeat (first | refine blk_drewN ?_ _ | refine blk_drew ?_ | refine blk_alloc ?_ _)); exact BK216.out⟩, ⟨HBu HB.out⟩⟩
     ·rw [if_neg c9] at H
      have c9b0 : decide (4096 < a0_3) = false := decide_eq_false c9
      clear c9
      by_cases c11 : a0_2 < 0
      ·rw [if_pos c11] at H
       have c11b0 : decide (a0_2 < 0) = true := decide_eq_true c11
       clear c11
       have H' := Aside0.mk H
       clear H
       have hcz12_0 : w3.cell? ⟨gb216, 0, none⟩ = some (.slice A0_0 l0_0.length c0_0) := (blk_cell BK216.out 0).trans rfl
       have hcz12_1 : w3.cell? ⟨gb216, 1, none⟩ = some (.slice A0_1 l0_1.length c0_1) := (blk_cell BK216.out 1).trans rfl
       have hcz12_2 : w3.cell? ⟨gb216, 2, none⟩ = some (.int .i64 a0_2) := (blk_cell BK216.out 2).trans rfl
       have hcz12_3 : w3.cell? ⟨gb216, 3, none⟩ = some (.int .i64 a0_3) := (blk_cell BK216.out 3).trans rfl
       have hfz12_0 := blk_frozen BK216.out 0
       have hfz12_1 := blk_frozen BK216.out 1
       have hfz12_2 := blk_frozen BK216.out 2
       have hfz12_3 := blk_frozen BK216.out 3
       go_wp2_with (first | (go_at_call 57; (with_reducible refine (impl_DimsOk.calls k _ _ l0_0 true _ ?side1 ?side2 A4.out).mono ?_); (case side1 => exact (Cu ((Kd.C_below HR0_0.out HB.out)))); (case side2 => exact HC0_0.out); rintro e w' ⟨rfl, ⟨nd, rfl⟩⟩; (try first | exact ⟨rfl, _, World.drewN_drewN _ _ _⟩ | exact ⟨rfl, _, Eq.trans (World.drewN_drewN _ _ _) (congrArg (World.drewN _) (Nat.add_assoc _ _ _))⟩)))
       repeat (go_quiet (first | (go_at_call 57; (with_reducible refine (impl_DimsOk.calls k _ _ l0_0 true _ ?side1 ?side2 A4.out).mono ?_); (case side1 => exact (Cu ((Kd.C_below HR0_0.out HB.out)))); (case side2 => exact HC0_0.out); rintro e w' ⟨rfl, ⟨nd, rfl⟩⟩; (try first | exact ⟨rfl, _, World.drewN_drewN _ _ _⟩ | exact ⟨rfl, _, Eq.trans (World.drewN_drewN _ _ _) (congrArg (World.drewN _) (Nat.add_assoc _ _ _))⟩))); try go_wp2_with (first | (go_at_call 57; (with_reducible refine (impl_DimsOk.calls k _ _ l0_0 true _ ?side1 ?side2 A4.out).mono ?_); (case side1 => exact (Cu ((Kd.C_below HR0_0.out HB.out)))); (case side2 => exact HC0_0.out); rintro e w' ⟨rfl, ⟨nd, rfl⟩⟩; (try first | exact ⟨rfl, _, World.drewN_drewN _ _ _⟩ | exact ⟨rfl, _, Eq.trans (World.drewN_drewN _ _ _) (congrArg (World.drewN _) (Nat.add_assoc _ _ _))⟩))))
       go_meet
       case rel => exact ⟨_, (true), (by first | rfl | (simp; done) | (simp [*]; done)), H', ⟨by first | omega | exact Nat.le_refl _⟩, ⟨by (with_reducible repeat (first | refine blk_drewN ?_ _ | refine blk_drew ?_ | refine blk_alloc ?_ _)); exact BK216.out⟩, ⟨HBu HB.out⟩⟩
      ·rw [if_neg c11] at H
       have c11b0 : decide (a0_2 < 0) = false := decide_eq_false c11
       clear c11
       have H' := Aside0.mk H
       clear H
       have hcz13_0 : w3.cell? ⟨gb216, 0, none⟩ = some (.slice A0_0 l0_0.length c0_0) := (blk_cell BK216.out 0).trans rfl
       have hcz13_1 : w3.cell? ⟨gb216, 1, none⟩ = some (.slice A0_1 l0_1.length c0_1) := (blk_cell BK216.out 1).trans rfl
       have hcz13_2 : w3.cell? ⟨gb216, 2, none⟩ = some (.int .i64 a0_2) := (blk_cell BK216.out 2).trans rfl
       have hcz13_3 : w3.cell? ⟨gb216, 3, none⟩ = some (.int .i64 a0_3) := (blk_cell BK216.out 3).trans rfl
       have hfz13_0 := blk_frozen BK216.out 0
       have hfz13_1 := blk_frozen BK216.out 1
       have hfz13_2 := blk_frozen BK216.out 2
       have hfz13_3 := blk_frozen BK216.out 3
       go_wp2_with (first | (go_at_call 57; (with_reducible refine (impl_DimsOk.calls k _ _ l0_0 true _ ?side1 ?side2 A4.out).mono ?_); (case side1 => exact (Cu ((Kd.C_below HR0_0.out HB.out)))); (case side2 => exact HC0_0.out); rintro e w' ⟨rfl, ⟨nd, rfl⟩⟩; (try first | exact ⟨rfl, _, World.drewN_drewN _ _ _⟩ | exact ⟨rfl, _, Eq.trans (World.drewN_drewN _ _ _) (congrArg (World.drewN _) (Nat.add_assoc _ _ _))⟩)))
       repeat (go_quiet (first | (go_at_call 57; (with_reducible refine (impl_DimsOk.calls k _ _ l0_0 true _ ?side1 ?side2 A4.out).mono ?_); (case side1 => exact (Cu ((Kd.C_below HR0_0.out HB.out)))); (case side2 => exact HC0_0.out); rintro e w' ⟨rfl, ⟨nd, rfl⟩⟩; (try first | exact ⟨rfl, _, World.drewN_drewN _ _ _⟩ | exact ⟨rfl, _, Eq.trans (World.drewN_drewN _ _ _) (congrArg (World.drewN _) (Nat.add_assoc _ _ _))⟩))); try go_wp2_with (first | (go_at_call 57; (with_reducible refine (impl_DimsOk.calls k _ _ l0_0 true _ ?side1 ?side2 A4.out).mono ?_); (case side1 => exact (Cu ((Kd.C_below HR0_0.out HB.out)))); (case side2 => exact HC0_0.out); rintro e w' ⟨rfl, ⟨nd, rfl⟩⟩; (try first | exact ⟨rfl, _, World.drewN_drewN _ _ _⟩ | exact ⟨rfl, _, Eq.trans (World.drewN_drewN _ _ _) (congrArg (World.drewN _) (Nat.add_assoc _ _ _))⟩))))
       go_meet
       case rel => exact ⟨_, (decide (a0_2 ≥ a0_3)), (by first | rfl | (simp; done) | (simp [*]; done)), H', ⟨by first | omega | exact Nat.le_refl _⟩, ⟨by (with_reducible repeat (first | refine blk_drewN ?_ _ | refine blk_drew ?_ | refine blk_alloc ?_ _)); exact BK216.out⟩, ⟨HBu HB.out⟩⟩
   ·rw [if_neg c6] at H
    have c6b0 : ((l0_1.length : Int) == (l0_0.length : Int)) = false := beq_eq_false_iff_ne.mpr c6
    have c6b1 : ((l0_1.length : Int) != (l0_0.length : Int)) = true := bne_iff_ne.mpr c6
    have c6b2 : (l0_1.length == l0_0.length) = false := by first | simpa using c6 | (simp at c6 ⊢; omega)
    (first | rw [c6b0] | (simp only [i64_w, i32_w]; rw [c6b0]) | skip)
    have H' := Aside0.mk H
    clear H
    have hcz14_0 : w3.cell? ⟨gb216, 0, none⟩ = some (.slice A0_0 l0_0.length c0_0) := (blk_cell BK216.out 0).trans rfl
    have hcz14_1 : w3.cell? ⟨gb216, 1, none⟩ = some (.slice A0_1 l0_1.length c0_1) := (blk_cell BK216.out 1).trans rfl
    have hcz14_2 : w3.cell? ⟨gb216, 2, none⟩ = some (.int .i64 a0_2) := (blk_cell BK216.out 2).trans rfl
    have hcz14_3 : w3.cell? ⟨gb216, 3, none⟩ = some (.int .i64 a0_3) := (blk_cell BK216.out 3).trans rfl
    have hfz14_0 := blk_frozen BK216.out 0
    have hfz14_1 := blk_frozen BK216.out 1
    have hfz14_2 := blk_frozen BK216.out 2
    have hfz14_3 := blk_frozen BK216.out 3
    go_wp2_with (first | (go_at_call 57; (with_reducible refine (impl_DimsOk.calls k _ _ l0_0 true _ ?side1 ?side2 A4.out).mono ?_); (case side1 => exact (Cu ((Kd.C_below HR0_0.out HB.out)))); (case side2 => exact HC0_0.out); rintro e w' ⟨rfl, ⟨nd, rfl⟩⟩; (try first | exact ⟨rfl, _, World.drewN_drewN _ _ _⟩ | exact ⟨rfl, _, Eq.trans (World.drewN_drewN _ _ _) (congrArg (World.drewN _) (Nat.add_assoc _ _ _))⟩)))
    repeat (go_quiet (first | (go_at_call 57; (with_reducible refine (impl_DimsOk.calls k _ _ l0_0 true _ ?side1 ?side2 A4.out).mono ?_); (case side1 => exact (Cu ((Kd.C_below HR0_0.out HB.out)))); (case side2 => exact HC0_0.out); rintro e w' ⟨rfl, ⟨nd, rfl⟩⟩; (try first | exact ⟨rfl, _, World.drewN_drewN _ _ _⟩ | exact ⟨rfl, _, Eq.trans (World.drewN_drewN _ _ _) (congrArg (World.drewN _) (Nat.add_assoc _ _ _))⟩))); try go_wp2_with (first | (go_at_call 57; (with_reducible refine (impl_DimsOk.calls k _ _ l0_0 true _ ?side1 ?side2 A4.out).mono ?_); (case side1 => exact (Cu ((Kd.C_below HR0_0.out HB.out)))); (case side2 => exact HC0_0.out); rintro e w' ⟨rfl, ⟨nd, rfl⟩⟩; (try first | exact ⟨rfl, _, World.drewN_drewN _ _ _⟩ | exact ⟨rfl, _, Eq.trans (World.drewN_drewN _ _ _) (congrArg (World.drewN _) (Nat.add_assoc _ _ _))⟩))))
    go_meet
    case rel => exact ⟨_, (true), (by first | rfl | (simp; done) | (simp [*]; done)), H', ⟨by first | omega | exact Nat.le_refl _⟩, ⟨by (with_reducible repeat (first | refine blk_drewN ?_ _ | refine blk_drew ?_ | refine blk_alloc ?_ _)); exact BK216.out⟩, ⟨HBu HB.out⟩⟩
  ·replace c5 := Bool.eq_false_iff.mpr c5
   subst c5
   have H1 : (impl_ViewOk.j0 k true l0_0 l0_1 a0_2 a0_3) = some r := by rw [if_neg (show ¬ (false = true) by decide)] at H; exact H
   clear H
   have H := H1
   clear H1
   have H' := Aside0.mk H
   clear H
   have hcz15_0 : w3.cell? ⟨gb216, 0, none⟩ = some (.slice A0_0 l0_0.length c0_0) := (blk_cell BK216.out 0).trans rfl
   have hcz15_1 : w3.cell? ⟨gb216, 1, none⟩ = some (.slice A0_1 l0_1.length c0_1) := (blk_cell BK216.out 1).trans rfl
   have hcz15_2 : w3.cell? ⟨gb216, 2, none⟩ = some (.int .i64 a0_2) := (blk_cell BK216.out 2).trans rfl
   have hcz15_3 : w3.cell? ⟨gb216, 3, none⟩ = some (.int .i64 a0_3) := (blk_cell BK216.out 3).trans rfl
   have hfz15_0 := blk_frozen BK216.out 0
   have hfz15_1 := blk_frozen BK216.out 1
   have hfz15_2 := blk_frozen BK216.out 2
   have hfz15_3 := blk_frozen BK216.out 3
   go_wp2_with (first | (go_at_call 57; (with_reducible refine (impl_DimsOk.calls k _ _ l0_0 false _ ?side1 ?side2 A4.out).mono ?_); (case side1 => exact (Cu ((Kd.C_below HR0_0.out HB.out)))); (case side2 => exact HC0_0.out); rintro e w' ⟨rfl, ⟨nd, rfl⟩⟩; (try first | exact ⟨rfl, _, World.drewN_drewN _ _ _⟩ | exact ⟨rfl, _, Eq.trans (World.drewN_drewN _ _ _) (congrArg (World.drewN _) (Nat.add_assoc _ _ _))⟩)))
   repeat (go_quiet (first | (go_at_call 57; (with_reducible refine (impl_DimsOk.calls k _ _ l0_0 false _ ?side1 ?side2 A4.out).mono ?_); (case side1 => exact (Cu ((Kd.C_below HR0_0.out HB.out)))); (case side2 => exact HC0_0.out); rintro e w' ⟨rfl, ⟨nd, rfl⟩⟩; (try first | exact ⟨rfl, _, World.drewN_drewN _ _ _⟩ | exact ⟨rfl, _, Eq.trans (World.drewN_drewN _ _ _) (congrArg (World.drewN _) (Nat.add_assoc _ _ _))⟩))); try go_wp2_with (first | (go_at_call 57; (with_reducible refine (impl_DimsOk.calls k _ _ l0_0 false _ ?side1 ?side2 A4.out).mono ?_); (case side1 => exact (Cu ((Kd.C_below HR0_0.out HB.out)))); (case side2 => exact HC0_0.out); rintro e w' ⟨rfl, ⟨nd, rfl⟩⟩; (try first | exact ⟨rfl, _, World.drewN_drewN _ _ _⟩ | exact ⟨rfl, _, Eq.trans (World.drewN_drewN _ _ _) (congrArg (World.drewN _) (Nat.add_assoc _ _ _))⟩))))
   go_meet
   case rel => exact ⟨_, (true), (by first | rfl | (simp; done) | (simp [*]; done)), H', ⟨by first | omega | exact Nat.le_refl _⟩, ⟨by (with_reducible repeat (first | refine blk_drewN ?_ _ | refine blk_drew ?_ | refine blk_alloc ?_ _)); exact BK216.out⟩, ⟨HBu HB.out⟩⟩
 case rest =>
  clear HC2
  try clear c1
  try clear p2
  try clear c5
  try clear c6
  try clear c6b0
  try clear c6b1
  try clear c6b2
  try clear c7
  try clear c7b0
  try clear c9
  try clear c9b0
  try clear c11
  try clear c11b0
  try clear hcz10_0
  try clear hcz10_1
  try clear hcz10_2
  try clear hcz10_3
  try clear hcz12_0
  try clear hcz12_1
  try clear hcz12_2
  try clear hcz12_3
  try clear hcz13_0
  try clear hcz13_1
  try clear hcz13_2
  try clear hcz13_3
  try clear hcz14_0
  try clear hcz14_1
  try clear hcz14_2
  try clear hcz14_3
  try clear hcz15_0
  try clear hcz15_1
  try clear hcz15_2
  try clear hcz15_3
  try clear hcz8_0
  try clear hcz8_1
  try clear hcz8_2
  try clear hcz8_3
  try clear hfz10_0
  try clear hfz10_1
  try clear hfz10_2
  try clear hfz10_3
  try clear hfz12_0
  try clear hfz12_1
  try clear hfz12_2
  try clear hfz12_3
  try clear hfz13_0
  try clear hfz13_1
  try clear hfz13_2
  try clear hfz13_3
  try clear hfz14_0
  try clear hfz14_1
  try clear hfz14_2
  try clear hfz14_3
  try clear hfz15_0
  try clear hfz15_1
  try clear hfz15_2
  try clear hfz15_3
  try clear hfz8_0
  try clear hfz8_1
  try clear hfz8_2
  try clear hfz8_3
  obtain ⟨kq, x41_1, rfl, HA, HJ1, BK216, HB⟩ := hcut
  cases kq with
  | zero => exact absurd HA.out (by simp [impl_ViewOk.j0])
  | succ kj1 =>
   have H := HA.out
   clear HA
   simp only [impl_ViewOk.j0] at H
   by_cases c16 : x41_1 = true
   ·subst c16
    have H1 : (some false) = some r := by rw [if_pos rfl] at H; exact H
    clear H
    have H := H1
    clear H1
    obtain rfl := Option.some.inj H
    go_wp2
    repeat (go_quiet (fail); try go_wp2)
    go_ret
    exact ⟨by first | rfl | (simp [errW_none, errW_some] <;> rfl) | (simp [*, errW_none, errW_some] <;> rfl), HBu HB.out⟩
   ·replace c16 := Bool.eq_false_iff.mpr c16
    subst c16
    have H1 : (impl_ViewOk.l0 kj1 a0_2 a0_2 l0_1 (l0_1.length : Int) 0 l0_0 l0_1 a0_2 a0_3) = some r := by rw [if_neg (show ¬ (false = true) by decide)] at H; exact H
    clear H
    have H := H1
    clear H1
    have H' := Aside0.mk H
    clear H
    have hcz17_0 : wc.cell? ⟨gb216, 0, none⟩ = some (.slice A0_0 l0_0.length c0_0) := (blk_cell BK216.out 0).trans rfl
    have hcz17_1 : wc.cell? ⟨gb216, 1, none⟩ = some (.slice A0_1 l0_1.length c0_1) := (blk_cell BK216.out 1).trans rfl
    have hcz17_2 : wc.cell? ⟨gb216, 2, none⟩ = some (.int .i64 a0_2) := (blk_cell BK216.out 2).trans rfl
    have hcz17_3 : wc.cell? ⟨gb216, 3, none⟩ = some (.int .i64 a0_3) := (blk_cell BK216.out 3).trans rfl
    have hfz17_0 := blk_frozen BK216.out 0
    have hfz17_1 := blk_frozen BK216.out 1
    have hfz17_2 := blk_frozen BK216.out 2
    have hfz17_3 := blk_frozen BK216.out 3
    go_wp2
    repeat (go_quiet (fail); try go_wp2)
    go_loopg [3, 4, 49] kj1 (fun kq v3 v4 v49 w' => ∃ (x3_2 : Int) (x4_2 : Int) (x49_2 : Int), v3 = .int .i64 x3_2 ∧ v4 = .int .i64 x4_2 ∧ v49 = .int .i64 x49_2 ∧ Aside0 (impl_ViewOk.l0 kq x3_2 x4_2 l0_1 (l0_1.length : Int) x49_2 l0_0 l0_1 a0_2 a0_3 = some r) ∧ Aside0 (kq ≤ kj1) ∧ Aside0 (w'.heap[gb216]? = some (.cells #[(.slice A0_0 l0_0.length c0_0), (.slice A0_1 l0_1.length c0_1), .int .i64 a0_2, .int .i64 a0_3] 36 (0, 0))) ∧ Aside0 (Below w.heap.size w w'))
    case atStart => exact ⟨(a0_2), (a0_2), (0), (by first | rfl | (simp; done) | (simp [*]; done)), (by first | rfl | (simp; done) | (simp [*]; done)), (by first | rfl | (simp; done) | (simp [*]; done)), H', ⟨Nat.le_refl _⟩, ⟨by (with_reducible repeat (first | refine blk_drewN ?_ _ | refine blk_drew ?_ | refine blk_alloc ?_ _)); exact BK216.out⟩, ⟨HBu HB.out⟩⟩
    case round =>
     clear H'
     try clear c1
     try clear p2
     try clear c5
     try clear c6
     try clear c6b0
     try clear c6b1
     try clear c6b2
     try clear c7
     try clear c7b0
     try clear c9
     try clear c9b0
     try clear c11
     try clear c11b0
     try clear c16
     try clear hcz10_0
     try clear hcz10_1
     try clear hcz10_2
     try clear hcz10_3
     try clear hcz12_0
     try clear hcz12_1
     try clear hcz12_2
     try clear hcz12_3
     try clear hcz13_0
     try clear hcz13_1
     try clear hcz13_2
     try clear hcz13_3
     try clear hcz14_0
     try clear hcz14_1
     try clear hcz14_2
     try clear hcz14_3
     try clear hcz15_0
     try clear hcz15_1
     try clear hcz15_2
     try clear hcz15_3
     try clear hcz17_0
     try clear hcz17_1
     try clear hcz17_2
     try clear hcz17_3
     try clear hcz8_0
     try clear hcz8_1
     try clear hcz8_2
     try clear hcz8_3
     try clear hfz10_0
     try clear hfz10_1
     try clear hfz10_2
     try clear hfz10_3
     try clear hfz12_0
     try clear hfz12_1
     try clear hfz12_2
     try clear hfz12_3
     try clear hfz13_0
     try clear hfz13_1
     try clear hfz13_2
     try clear hfz13_3
     try clear hfz14_0
     try clear hfz14_1
     try clear hfz14_2
     try clear hfz14_3
     try clear hfz15_0
     try clear hfz15_1
     try clear hfz15_2
     try clear hfz15_3
     try clear hfz17_0
     try clear hfz17_1
     try clear hfz17_2
     try clear hfz17_3
     try clear hfz8_0
     try clear hfz8_1
     try clear hfz8_2
     try clear hfz8_3
     try clear p2
     obtain ⟨x3_2, x4_2, x49_2, rfl, rfl, rfl, HA, HK2, BK216, HB⟩ := hrel
     cases gk with
     | zero => exact absurd HA.out (by simp [impl_ViewOk.l0])
     | succ k2 =>
      have H := HA.out
      clear HA
      simp only [impl_ViewOk.l0] at H
      by_cases c18 : x49_2 < (l0_1.length : Int)
      ·rw [if_pos c18] at H
       have c18b0 : decide (x49_2 < (l0_1.length : Int)) = true := decide_eq_true c18
       clear c18
       by_cases c19 : 0 ≤ x49_2
       ·rw [if_pos c19] at H
        have c19b0 : decide (0 ≤ x49_2) = true := decide_eq_true c19
        clear c19
        by_cases c20 : x49_2 < (l0_1.length : Int)
        ·rw [if_pos c20] at H
         have c20b0 : decide (x49_2 < (l0_1.length : Int)) = true := decide_eq_true c20
         clear c20
         by_cases c21 : (rd l0_1 x49_2) < (-4096)
         ·rw [if_pos c21] at H
          have c21b0 : decide ((rd l0_1 x49_2) < (-4096)) = true := decide_eq_true c21
          clear c21
          obtain rfl := Option.some.inj H
          have p218 : 0 ≤ (x49_2 : Int) := of_decide_eq_true (by first | (with_reducible assumption) | assumption)
          have q218 : x49_2 < (l0_1.length : Int) := of_decide_eq_true (by first | (with_reducible assumption) | assumption)
          obtain ⟨ad218, e218, hx218_0⟩ := Kd.at_int HR0_1.out x49_2 p218 q218
          cases e218
          replace hx218_0 := (HB.out.cell (World.block_lt_of_cell? w _ hx218_0)).trans hx218_0
          replace p218 := eq_true p218
          replace q218 := eq_true q218
          go_wp2
          repeat (go_quiet (fail); try go_wp2)
          go_ret
          exact ⟨by first | rfl | (simp [errW_none, errW_some] <;> rfl) | (simp [*, errW_none, errW_some] <;> rfl), HBu HB.out⟩
         ·rw [if_neg c21] at H
          have c21b0 : decide ((rd l0_1 x49_2) < (-4096)) = false := decide_eq_false c21
          clear c21
          by_cases c22 : (rd l0_1 x49_2) > 4096
          ·rw [if_pos c22] at H
           have c22b0 : decide (4096 < (rd l0_1 x49_2)) = true := decide_eq_true c22
           clear c22
           obtain rfl := Option.some.inj H
           have p218 : 0 ≤ (x49_2 : Int) := of_decide_eq_true (by first | (with_reducible assumption) | assumption)
           have q218 : x49_2 < (l0_1.length : Int) := of_decide_eq_true (by first | (with_reducible assumption) | assumption)
           obtain ⟨ad218, e218, hx218_0⟩ := Kd.at_int HR0_1.out x49_2 p218 q218
           cases e218
           replace hx218_0 := (HB.out.cell (World.block_lt_of_cell? w _ hx218_0)).trans hx218_0
           replace p218 := eq_true p218
           replace q218 := eq_true q218
           go_wp2
           repeat (go_quiet (fail); try go_wp2)
           go_ret
           exact ⟨by first | rfl | (simp [errW_none, errW_some] <;> rfl) | (simp [*, errW_none, errW_some] <;> rfl), HBu HB.out⟩
          ·rw [if_neg c22] at H
           have c22b0 : decide (4096 < (rd l0_1 x49_2)) = false := decide_eq_false c22
           clear c22
           by_cases c23 : x49_2 < (l0_0.length : Int)
           ·rw [if_pos c23] at H
            have c23b0 : decide (x49_2 < (l0_0.length : Int)) = true := decide_eq_true c23
            clear c23
            obtain ⟨ji24, hji24⟩ : ∃ j_ : Int, (mn 0 (wrap64 ((rd l0_1 x49_2) * (wrap64 ((rd l0_0 x49_2) - 1))))) = j_ := ⟨_, rfl⟩
            replace H : (impl_ViewOk.l0 k2 (wrap64 (x3_2 + (ji24))) (wrap64 (x4_2 + (mx 0 (wrap64 ((rd l0_1 x49_2) * (wrap64 ((rd l0_0 x49_2) - 1))))))) l0_1 (l0_1.length : Int) (wrap64 (x49_2 + 1)) l0_0 l0_1 a0_2 a0_3) = some r := by first | (rw [hji24] at H; exact H) | (simp only [hji24] at H ⊢; exact H)
            have hji24_ : (if (wrap64 ((rd l0_1 x49_2) * (wrap64 ((rd l0_0 x49_2) - 1)))) < 0 then (wrap64 ((rd l0_1 x49_2) * (wrap64 ((rd l0_0 x49_2) - 1)))) else 0) = ji24 := hji24
            obtain ⟨ji25, hji25⟩ : ∃ j_ : Int, (mx 0 (wrap64 ((rd l0_1 x49_2) * (wrap64 ((rd l0_0 x49_2) - 1))))) = j_ := ⟨_, rfl⟩
            replace H : (impl_ViewOk.l0 k2 (wrap64 (x3_2 + (ji24))) (wrap64 (x4_2 + (ji25))) l0_1 (l0_1.length : Int) (wrap64 (x49_2 + 1)) l0_0 l0_1 a0_2 a0_3) = some r := by first | (rw [hji25] at H; exact H) | (simp only [hji25] at H ⊢; exact H)
            have hji25_ : (if 0 < (wrap64 ((rd l0_1 x49_2) * (wrap64 ((rd l0_0 x49_2) - 1)))) then (wrap64 ((rd l0_1 x49_2) * (wrap64 ((rd l0_0 x49_2) - 1)))) else 0) = ji25 := hji25
            have H' := Aside0.mk H
            clear H
            have p218 : 0 ≤ (x49_2 : Int) := of_decide_eq_true (by first | (with_reducible assumption) | assumption)
            have q218 : x49_2 < (l0_1.length : Int) := of_decide_eq_true (by first | (with_reducible assumption) | assumption)
            obtain ⟨ad218, e218, hx218_0⟩ := Kd.at_int HR0_1.out x49_2 p218 q218
            cases e218
            replace hx218_0 := (HB.out.cell (World.block_lt_of_cell? w _ hx218_0)).trans hx218_0
            replace p218 := eq_true p218
            replace q218 := eq_true q218
            have hcz26_0 : wr.cell? ⟨gb216, 0, none⟩ = some (.slice A0_0 l0_0.length c0_0) := (blk_cell BK216.out 0).trans rfl
            have hcz26_1 : wr.cell? ⟨gb216, 1, none⟩ = some (.slice (some ad218) l0_1.length c0_1) := (blk_cell BK216.out 1).trans rfl
            have hcz26_2 : wr.cell? ⟨gb216, 2, none⟩ = some (.int .i64 a0_2) := (blk_cell BK216.out 2).trans rfl
            have hcz26_3 : wr.cell? ⟨gb216, 3, none⟩ = some (.int .i64 a0_3) := (blk_cell BK216.out 3).trans rfl
            have hfz26_0 := blk_frozen BK216.out 0
            have hfz26_1 := blk_frozen BK216.out 1
            have hfz26_2 := blk_frozen BK216.out 2
            have hfz26_3 := blk_frozen BK216.out 3
            have p219 : 0 ≤ (x49_2 : Int) := of_decide_eq_true (by first | (with_reducible assumption) | assumption)
            have q219 : x49_2 < (l0_0.length : Int) := of_decide_eq_true (by first | (with_reducible assumption) | assumption)
            obtain ⟨ad219, e219, hx219_0⟩ := Kd.at_int HR0_0.out x49_2 p219 q219
            cases e219
            replace hx219_0 := (HB.out.cell (World.block_lt_of_cell? w _ hx219_0)).trans hx219_0
            replace p219 := eq_true p219
            replace q219 := eq_true q219
            have p220 : 0 ≤ (x49_2 : Int) := of_decide_eq_true (by first | (with_reducible assumption) | assumption)
            have q220 : x49_2 < (l0_0.length : Int) := of_decide_eq_true (by first | (with_reducible assumption) | assumption)
            obtain ⟨ad220, e220, hx220_0⟩ := Kd.at_int HR0_0.out x49_2 p220 q220
            obtain rfl : ad219 = ad220 := (by injection e220)
            replace hx220_0 := (HB.out.cell (World.block_lt_of_cell? w _ hx220_0)).trans hx220_0
            replace p220 := eq_true p220
            replace q220 := eq_true q220
            go_wp2
            repeat (go_quiet (fail); try go_wp2)
            go_roundg k2
            case measure => have := HJ1.out; have := HK2.out; omega
            case rel => exact ⟨(wrap64 (x3_2 + (ji24))), (wrap64 (x4_2 + (ji25))), (wrap64 (x49_2 + 1)), (by first | rfl | (simp; done) | (simp only [← hji24] <;> (first | rfl | simp)) | (simp [*]; done)), (by first | rfl | (simp; done) | (simp only [← hji25] <;> (first | rfl | simp)) | (simp [*]; done)), (by first | rfl | (simp; done) | (simp [*]; done)), H', ⟨by have := HJ1.out; have := HK2.out; omega⟩, ⟨by (with_reducible repeat (first | refine blk_drewN ?_ _ | refine blk_drew ?_ | refine blk_alloc ?_ _)); exact BK216.out⟩, ⟨HBu HB.out⟩⟩
           ·rw [if_neg c23] at H
            exact absurd H (by simp)
        ·rw [if_neg c20] at H
         exact absurd H (by simp)
       ·rw [if_neg c19] at H
        exact absurd H (by simp)
      ·rw [if_neg c18] at H
       have c18b0 : decide (x49_2 < (l0_1.length : Int)) = false := decide_eq_false c18
       clear c18
       by_cases c27 : x3_2 ≥ 0
       ·rw [if_pos c27] at H
        have c27b0 : decide (0 ≤ x3_2) = true := decide_eq_true c27
        clear c27
        obtain rfl := Option.some.inj H
        have hcz28_0 : wr.cell? ⟨gb216, 0, none⟩ = some (.slice A0_0 l0_0.length c0_0) := (blk_cell BK216.out 0).trans rfl
        have hcz28_1 : wr.cell? ⟨gb216, 1, none⟩ = some (.slice A0_1 l0_1.length c0_1) := (blk_cell BK216.out 1).trans rfl
        have hcz28_2 : wr.cell? ⟨gb216, 2, none⟩ = some (.int .i64 a0_2) := (blk_cell BK216.out 2).trans rfl
        have hcz28_3 : wr.cell? ⟨gb216, 3, none⟩ = some (.int .i64 a0_3) := (blk_cell BK216.out 3).trans rfl
        have hfz28_0 := blk_frozen BK216.out 0
        have hfz28_1 := blk_frozen BK216.out 1
        have hfz28_2 := blk_frozen BK216.out 2
        have hfz28_3 := blk_frozen BK216.out 3
        go_wp2
        repeat (go_quiet (fail); try go_wp2)
        go_ret
        exact ⟨by first | rfl | (simp [errW_none, errW_some] <;> rfl) | (simp [*, errW_none, errW_some] <;> rfl), HBu HB.out⟩
       ·rw [if_neg c27] at H
        have c27b0 : decide (0 ≤ x3_2) = false := decide_eq_false c27
        clear c27
        obtain rfl := Option.some.inj H
        go_wp2
        repeat (go_quiet (fail); try go_wp2)
        go_ret
        exact ⟨by first | rfl | (simp [errW_none, errW_some] <;> rfl) | (simp [*, errW_none, errW_some] <;> rfl), HBu HB.out⟩

/-! ### slices_Clone_int_int: function 44 -/
def slices_Clone_int_int.f (l0 : List Int) : Option (List Int) := if l0.length < 17592186044416 then some l0 else none
set_option maxHeartbeats 8000000 in
set_option maxRecDepth 100000 in
theorem slices_Clone_int_int.calls (A0 : Option Addr) (c0 : Nat) (l0 : List Int) (r : List Int) (w : World) (hr0 : Kd.C (Kd.int .i64) w A0 l0.length l0) (hc0 : l0.length ≤ c0) (h : slices_Clone_int_int.f l0 = some r) :
  Calls Try.prog 44 #[.slice A0 l0.length c0] w fun e w' => ∃ v0_ : Value, e = .returned (v0_) ∧ Kd.R (Kd.int .i64) 3 w' w.heap.size (fun _ => True) v0_ r ∧ Below w.heap.size w w' := by
 have h1 : l0.length < 17592186044416 ∧ l0 = r := by
  unfold slices_Clone_int_int.f at h
  split at h
  ·next hl => exact ⟨hl, Option.some.inj h⟩
  ·cases h
 obtain ⟨hlen, rfl⟩ := h1
 have HR0 := Aside0.mk hr0
 have HC0 := Aside0.mk hc0
 have HL := Aside0.mk hlen
 clear h hlen hr0 hc0
 have HB := Aside0.mk (Below.refl w.heap.size w)
 have hnil := fun (w : World) (a : Option Addr) (n c n' c' : Nat) => Lib.run_eql_slice_nil (P := Try.prog) w 22 3 a n c n' c' Try.underlying22
 rcases A0 with _ | a0
 ·have hl : l0 = [] := by
   rcases l0 with _ | ⟨x, xs⟩
   ·rfl
   ·obtain ⟨ad, e, _⟩ := HR0.out.2.2 (by simp)
    cases e
  subst hl
  go_enter Try.func44, Try.ntmps44
  go_wp2
  go_ret
  exact ⟨_, rfl, Kd.R_nil _ _ _ _ _, Below.refl _ _⟩
 ·go_enter Try.func44, Try.ntmps44
  go_wp2_with (first | ((with_reducible refine gate_dst (N := 5) rfl ?_); refine Kd.R_lit (Kd.int .i64) _ 3 ?hg (N := 5) ?hd (xs := ([] : List Int)) (inner := []) (ok := fun _ => True) (okp := fun _ => True) ?hr ?hp (fun _ hk => hk) trivial (Below.refl _ _) (Nat.le_refl _) (by simp) ?_; (case hd => rfl); (case hg => rfl); (case hr => first | (go_simp; done) | (go_simp; rfl)); (case hp => exact (Reps.none _ _)); intro v1 w3 ho4 hb hg_ hnew_; clear hg_ hnew_; have HO1 := Aside0.mk (Kd.R_lower ho4 (below_size HB.out)); replace HB := Aside0.mk (below_step HB.out hb); clear hb ho4) | ((with_reducible refine gate_builtin (b := .append) (xs := #[.tmp 5, .tmp 6]) rfl ?_); at_builtin; refine Kd.R_append_rows (Kd.int .i64) (w0 := w) w.heap.size rfl (.tmp 5) (.tmp 6) 22 3 (.int .i64 0) 8 rfl Try.underlying22 info3 rfl (by decide) (by omega) v1 ([] : List Int) l0 _ _ _ (fun _ => True) (fun _ => False) rfl rfl ?aO ?aR (fun _ _ h => h) (fun _ h => h.elim) ?aF ?aB ?aS ?aL ?_; (case aR => exact (Kd.C_below HR0.out HB.out)); (case aB => exact HB.out); (case aF => exact (fun _ _ => trivial)); (case aO => exact HO1.out); (case aS => exact (below_size HB.out)); (case aL => have := HL.out; simp only [List.length_nil]; omega); intro v2 w5 ho hb hg hat; have n0_ := Aside0.mk (hb); have n1_ := Aside0.mk (ho); clear HB; clear HO1; have HB := n0_; have HO2 := n1_; clear n0_ n1_; clear ho hb hg hat))
  go_ret
  exact ⟨_, rfl, HO2.out, HB.out⟩

end Go.Proofs.Ytcpemdedmepfeac.PFnExactLook
