-- Printed out of the translation, hand-written contracts beside it; checked by the kernel alone.
import Derived.Test.YtpoblnigmfbnfaaPFnExactFairx0
namespace Go.Proofs.Ytpoblnigmfbnfaa.PFnExactFair
open Go.RowKit Go.Proofs.YtpoblnigmfbnfaaW.PrintWords Go.Proofs.YtpoblnigmfbnfaaW.PrintLast Go.Proofs.YtpoblnigmfbnfaaW.PrintMore
attribute [local go_sem] max2_int min2_int max_two min_two max_three min_three max_four min_four   -- for this text's walks alone
set_option linter.unusedVariables false
set_option linter.unusedSimpArgs false

/-! ### impl_Fair: function 14 -/
mutual
def impl_Fair.l0 : Nat → List (S71) → List (S70) → List (S70) → Int → Int → Option (Bool)
  | 0, _, _, _, _, _ => none
  | k + 1, x0, x1, x16, x17, x18 => if x18 < x17 then (if 0 ≤ x18 then (if x18 < (x16.length : Int) then (if ((rd_T70 x16 x18).f0) = x18 then (impl_Fair.l0 k x0 x1 x16 x17 (wrap64 (x18 + 1))) else (some false)) else (none)) else (none)) else (impl_Fair.l1 k x0 x1 x0 (x0.length : Int) 0)
def impl_Fair.l1 : Nat → List (S71) → List (S70) → List (S71) → Int → Int → Option (Bool)
  | 0, _, _, _, _, _ => none
  | k + 1, x0, x1, x28, x29, x30 => if x30 < x29 then (if 0 ≤ x30 then (if x30 < (x28.length : Int) then (impl_Fair.l2 k x0 x1 x30 x28 x29 x30 x0 (x0.length : Int) 0 ((rd_T71 x28 x30).f0) ((rd_T71 x28 x30).f1) ((rd_T71 x28 x30).f2) ((rd_T71 x28 x30).f3) ((rd_T71 x28 x30).f4)) else (none)) else (none)) else (some true)
def impl_Fair.l2 : Nat → List (S71) → List (S70) → Int → List (S71) → Int → Int → List (S71) → Int → Int → Int → Int → List Int → Int → Int → Option (Bool)
  | 0, _, _, _, _, _, _, _, _, _, _, _, _, _, _ => none
  | k + 1, x0, x1, x7, x28, x29, x30, x35, x36, x37, x162000, x162001, x162002, x162003, x162004 => if x37 < x36 then (if 0 ≤ x37 then (if x37 < (x35.length : Int) then (if x162000 = ((rd_T71 x35 x37).f0) then (if (x162002.length : Int) = (((rd_T71 x35 x37).f2).length : Int) then (if x162003 = ((rd_T71 x35 x37).f3) then (if 0 ≤ x7 then (if x7 < (x1.length : Int) then (if ((rd_T70 x1 x7).f1) ≥ 0 then (if x37 < (x1.length : Int) then (if ((rd_T70 x1 x37).f1) ≥ 0 then (if x162001 > ((rd_T71 x35 x37).f1) then (impl_Fair.j3 k x0 x1 x7 x28 x29 x30 x35 x36 x37 (decide (((rd_T70 x1 x7).f1) > ((rd_T70 x1 x37).f1))) x162000 x162001 x162002 x162003 x162004) else (impl_Fair.j3 k x0 x1 x7 x28 x29 x30 x35 x36 x37 false x162000 x162001 x162002 x162003 x162004)) else (impl_Fair.j3 k x0 x1 x7 x28 x29 x30 x35 x36 x37 false x162000 x162001 x162002 x162003 x162004)) else (none)) else (impl_Fair.j3 k x0 x1 x7 x28 x29 x30 x35 x36 x37 false x162000 x162001 x162002 x162003 x162004)) else (none)) else (none)) else (impl_Fair.j3 k x0 x1 x7 x28 x29 x30 x35 x36 x37 false x162000 x162001 x162002 x162003 x162004)) else (impl_Fair.j3 k x0 x1 x7 x28 x29 x30 x35 x36 x37 false x162000 x162001 x162002 x162003 x162004)) else (impl_Fair.j3 k x0 x1 x7 x28 x29 x30 x35 x36 x37 false x162000 x162001 x162002 x162003 x162004)) else (none)) else (none)) else (impl_Fair.l1 k x0 x1 x28 x29 (wrap64 (x30 + 1)))
def impl_Fair.j3 : Nat → List (S71) → List (S70) → Int → List (S71) → Int → Int → List (S71) → Int → Int → Bool → Int → Int → List Int → Int → Int → Option (Bool)
  | 0, _, _, _, _, _, _, _, _, _, _, _, _, _, _, _ => none
  | k + 1, x0, x1, x7, x28, x29, x30, x35, x36, x37, x98, x162000, x162001, x162002, x162003, x162004 => if x98 = true then (some false) else (impl_Fair.l2 k x0 x1 x7 x28 x29 x30 x35 x36 (wrap64 (x37 + 1)) x162000 x162001 x162002 x162003 x162004)
end
def impl_Fair.f (k : Nat) (l0 : List (S71)) (l1 : List (S70)) : Option (Bool) := if (l0.length : Int) = (l1.length : Int) then (impl_Fair.l0 k l0 l1 l1 (l1.length : Int) 0) else (some false)
theorem impl_Fair.mono_l : ∀ k, (∀ y0 y1 y2 y3 y4, LeO (impl_Fair.l0 k y0 y1 y2 y3 y4) (impl_Fair.l0 (k + 1) y0 y1 y2 y3 y4)) ∧ (∀ y0 y1 y2 y3 y4, LeO (impl_Fair.l1 k y0 y1 y2 y3 y4) (impl_Fair.l1 (k + 1) y0 y1 y2 y3 y4)) ∧ (∀ y0 y1 y2 y3 y4 y5 y6 y7 y8 y9 y10 y11 y12 y13, LeO (impl_Fair.l2 k y0 y1 y2 y3 y4 y5 y6 y7 y8 y9 y10 y11 y12 y13) (impl_Fair.l2 (k + 1) y0 y1 y2 y3 y4 y5 y6 y7 y8 y9 y10 y11 y12 y13)) ∧ (∀ y0 y1 y2 y3 y4 y5 y6 y7 y8 y9 y10 y11 y12 y13 y14, LeO (impl_Fair.j3 k y0 y1 y2 y3 y4 y5 y6 y7 y8 y9 y10 y11 y12 y13 y14) (impl_Fair.j3 (k + 1) y0 y1 y2 y3 y4 y5 y6 y7 y8 y9 y10 y11 y12 y13 y14))
  | 0 => ⟨fun _ _ _ _ _ r h => by simp [impl_Fair.l0] at h, fun _ _ _ _ _ r h => by simp [impl_Fair.l1] at h, fun _ _ _ _ _ _ _ _ _ _ _ _ _ _ r h => by simp [impl_Fair.l2] at h, fun _ _ _ _ _ _ _ _ _ _ _ _ _ _ _ r h => by simp [impl_Fair.j3] at h⟩
  | k + 1 => by
    obtain ⟨ih0, ih1, ih2, ih3⟩ := impl_Fair.mono_l k
    refine ⟨?_, ?_, ?_, ?_⟩
    · intro y0 y1 y2 y3 y4
      unfold impl_Fair.l0
      repeat' first
      | (with_reducible exact ih0 _ _ _ _ _)
      | (with_reducible exact ih1 _ _ _ _ _)
      | (with_reducible exact ih2 _ _ _ _ _ _ _ _ _ _ _ _ _ _)
      | (with_reducible exact ih3 _ _ _ _ _ _ _ _ _ _ _ _ _ _ _)
      | (with_reducible exact LeO.refl _)
      | (with_reducible exact LeO.none _)
      | (with_reducible refine LeO.ite ?_ ?_)
      | (with_reducible refine LeO.bind ?_ (fun _ => ?_))
      | exact ih0 _ _ _ _ _
      | exact ih1 _ _ _ _ _
      | exact ih2 _ _ _ _ _ _ _ _ _ _ _ _ _ _
      | exact ih3 _ _ _ _ _ _ _ _ _ _ _ _ _ _ _
      | exact LeO.none _
      | refine LeO.ite ?_ ?_
      | refine LeO.bind ?_ (fun _ => ?_)
    · intro y0 y1 y2 y3 y4
      unfold impl_Fair.l1
      repeat' first
      | (with_reducible exact ih0 _ _ _ _ _)
      | (with_reducible exact ih1 _ _ _ _ _)
      | (with_reducible exact ih2 _ _ _ _ _ _ _ _ _ _ _ _ _ _)
      | (with_reducible exact ih3 _ _ _ _ _ _ _ _ _ _ _ _ _ _ _)
      | (with_reducible exact LeO.refl _)
      | (with_reducible exact LeO.none _)
      | (with_reducible refine LeO.ite ?_ ?_)
      | (with_reducible refine LeO.bind ?_ (fun _ => ?_))
      | exact ih0 _ _ _ _ _
      | exact ih1 _ _ _ _ _
      | exact ih2 _ _ _ _ _ _ _ _ _ _ _ _ _ _
      | exact ih3 _ _ _ _ _ _ _ _ _ _ _ _ _ _ _
      | exact LeO.none _
      | refine LeO.ite ?_ ?_
      | refine LeO.bind ?_ (fun _ => ?_)
    · intro y0 y1 y2 y3 y4 y5 y6 y7 y8 y9 y10 y11 y12 y13
      unfold impl_Fair.l2
      repeat' first
      | (with_reducible exact ih0 _ _ _ _ _)
      | (with_reducible exact ih1 _ _ _ _ _)
      | (with_reducible exact ih2 _ _ _ _ _ _ _ _ _ _ _ _ _ _)
      | (with_reducible exact ih3 _ _ _ _ _ _ _ _ _ _ _ _ _ _ _)
      | (with_reducible exact LeO.refl _)
      | (with_reducible exact LeO.none _)
      | (with_reducible refine LeO.ite ?_ ?_)
      | (with_reducible refine LeO.bind ?_ (fun _ => ?_))
      | exact ih0 _ _ _ _ _
      | exact ih1 _ _ _ _ _
      | exact ih2 _ _ _ _ _ _ _ _ _ _ _ _ _ _
      | exact ih3 _ _ _ _ _ _ _ _ _ _ _ _ _ _ _
      | exact LeO.none _
      | refine LeO.ite ?_ ?_
      | refine LeO.bind ?_ (fun _ => ?_)
    · intro y0 y1 y2 y3 y4 y5 y6 y7 y8 y9 y10 y11 y12 y13 y14
      unfold impl_Fair.j3
      repeat' first
      | (with_reducible exact ih0 _ _ _ _ _)
      | (with_reducible exact ih1 _ _ _ _ _)
      | (with_reducible exact ih2 _ _ _ _ _ _ _ _ _ _ _ _ _ _)
      | (with_reducible exact ih3 _ _ _ _ _ _ _ _ _ _ _ _ _ _ _)
      | (with_reducible exact LeO.refl _)
      | (with_reducible exact LeO.none _)
      | (with_reducible refine LeO.ite ?_ ?_)
      | (with_reducible refine LeO.bind ?_ (fun _ => ?_))
      | exact ih0 _ _ _ _ _
      | exact ih1 _ _ _ _ _
      | exact ih2 _ _ _ _ _ _ _ _ _ _ _ _ _ _
      | exact ih3 _ _ _ _ _ _ _ _ _ _ _ _ _ _ _
      | exact LeO.none _
      | refine LeO.ite ?_ ?_
      | refine LeO.bind ?_ (fun _ => ?_)
theorem impl_Fair.mono : ∀ a0 a1 k, LeO (impl_Fair.f k a0 a1) (impl_Fair.f (k + 1) a0 a1) := by
  intro a0 a1 k
  obtain ⟨ih0, ih1, ih2, ih3⟩ := impl_Fair.mono_l k
  unfold impl_Fair.f
  repeat' first
      | (with_reducible exact ih0 _ _ _ _ _)
      | (with_reducible exact ih1 _ _ _ _ _)
      | (with_reducible exact ih2 _ _ _ _ _ _ _ _ _ _ _ _ _ _)
      | (with_reducible exact ih3 _ _ _ _ _ _ _ _ _ _ _ _ _ _ _)
      | (with_reducible exact LeO.refl _)
      | (with_reducible exact LeO.none _)
      | (with_reducible refine LeO.ite ?_ ?_)
      | (with_reducible refine LeO.bind ?_ (fun _ => ?_))
      | exact ih0 _ _ _ _ _
      | exact ih1 _ _ _ _ _
      | exact ih2 _ _ _ _ _ _ _ _ _ _ _ _ _ _
      | exact ih3 _ _ _ _ _ _ _ _ _ _ _ _ _ _ _
      | exact LeO.none _
      | refine LeO.ite ?_ ?_
      | refine LeO.bind ?_ (fun _ => ?_)
set_option maxHeartbeats 100000000 in
set_option maxRecDepth 100000 in
theorem impl_Fair.calls (k : Nat) (A0 : Option Addr) (c0 : Nat) (l0 : List (S71)) (A1 : Option Addr) (c1 : Nat) (l1 : List (S70)) (r : Bool) (w : World) (hr0 : Kd.C k71 w A0 l0.length l0) (hc0 : l0.length ≤ c0) (hr1 : Kd.C k70 w A1 l1.length l1) (hc1 : l1.length ≤ c1) (h : impl_Fair.f k l0 l1 = some r) :
    Calls Try.prog 14 #[.slice A0 l0.length c0, .slice A1 l1.length c1] w fun e w' => e = .returned (.bool r) ∧ Below w.heap.size w w' := by
  have hu70 := Try.underlying70
  have hu71 := Try.underlying71
  have HR0 := Aside0.mk hr0
  have HC0 := Aside0.mk hc0
  clear hr0 hc0
  have HR1 := Aside0.mk hr1
  have HC1 := Aside0.mk hc1
  clear hr1 hc1
  have HB := Aside0.mk (Below.refl w.heap.size w)
  have H : (if (l0.length : Int) = (l1.length : Int) then (impl_Fair.l0 k l0 l1 l1 (l1.length : Int) 0) else (some false)) = some r := h
  clear h
  by_cases c3 : (l0.length : Int) = (l1.length : Int)
  · rw [if_pos c3] at H
    have c3b0 : ((l0.length : Int) == (l1.length : Int)) = true := beq_iff_eq.mpr c3
    have c3b1 : ((l0.length : Int) != (l1.length : Int)) = false := bne_eq_false_iff_eq.mpr c3
    have c3b2 : (l0.length == l1.length) = true := by first | simpa using c3 | (simp at c3 ⊢; omega)
    clear c3
    have H' := Aside0.mk H
    clear H
    go_enter Try.func14, Try.ntmps14
    go_wp2
    repeat (go_quiet (fail); try go_wp2)
    go_loopg [18] k (fun kq v18 w' => ∃ (x18_1 : Int), v18 = .int .i64 x18_1 ∧ Aside0 (impl_Fair.l0 kq l0 l1 l1 (l1.length : Int) x18_1 = some r) ∧ Aside0 (kq ≤ k) ∧ Aside0 (Below w.heap.size w w'))
    case atStart => exact ⟨(0), (by first | rfl | (simp; done) | (simp [*]; done)), H', ⟨Nat.le_refl _⟩, ⟨by repeat (first | (with_reducible first | exact HB.out | apply below_alloc | apply pw_below_drewN | apply below_drew1) | exact HB.out)⟩⟩
    case round =>
      clear H'
      try clear c1
      try clear p2
      try clear c3
      try clear c3b0
      try clear c3b1
      try clear c3b2
      obtain ⟨x18_1, rfl, HA, HK1, HB⟩ := hrel
      cases gk with
      | zero => exact absurd HA.out (by simp [impl_Fair.l0])
      | succ k1 =>
        have H := HA.out
        clear HA
        simp only [impl_Fair.l0] at H
        by_cases c4 : x18_1 < (l1.length : Int)
        · rw [if_pos c4] at H
          have c4b0 : decide (x18_1 < (l1.length : Int)) = true := decide_eq_true c4
          clear c4
          by_cases c5 : 0 ≤ x18_1
          · rw [if_pos c5] at H
            have c5b0 : decide (0 ≤ x18_1) = true := decide_eq_true c5
            clear c5
            by_cases c6 : x18_1 < (l1.length : Int)
            · rw [if_pos c6] at H
              have c6b0 : decide (x18_1 < (l1.length : Int)) = true := decide_eq_true c6
              clear c6
              by_cases c7 : ((rd_T70 l1 x18_1).f0) = x18_1
              · rw [if_pos c7] at H
                have c7b0 : (((rd_T70 l1 x18_1).f0) == x18_1) = true := beq_iff_eq.mpr c7
                have c7b1 : (((rd_T70 l1 x18_1).f0) != x18_1) = false := bne_eq_false_iff_eq.mpr c7
                clear c7
                have H' := Aside0.mk H
                clear H
                have p158 : 0 ≤ (x18_1 : Int) := of_decide_eq_true (by first | (with_reducible assumption) | assumption)
                have q158 : x18_1 < (l1.length : Int) := of_decide_eq_true (by first | (with_reducible assumption) | assumption)
                obtain ⟨ad158, A158_2, c158_2, e158, hx158_0, hx158_1, hx158_2, hx158_3, hl158_2, hi158_2⟩ := at_T70 HR1.out x18_1 p158 q158
                cases e158
                replace hx158_0 := (HB.out.cell (World.block_lt_of_cell? w _ hx158_0)).trans hx158_0
                replace hx158_1 := (HB.out.cell (World.block_lt_of_cell? w _ hx158_1)).trans hx158_1
                replace hx158_2 := (HB.out.cell (World.block_lt_of_cell? w _ hx158_2)).trans hx158_2
                replace hx158_3 := (HB.out.cell (World.block_lt_of_cell? w _ hx158_3)).trans hx158_3
                have HR158_2 := Aside0.mk hi158_2
                have HC158_2 := Aside0.mk hl158_2
                clear hi158_2 hl158_2
                replace p158 := eq_true p158
                replace q158 := eq_true q158
                go_wp2_with (first | ((with_reducible refine gate_dst (N := 6) rfl ?_); (try (refine gate_guard (by rfl) ?_; dsimp only)); refine box_event ?hg (N := 6) ?hd (cs := #[.int .i64 0, .int .i64 0, .slice none 0 0, .int .i64 0]) (t := 70) ?hr ?_; (case hd => rfl); (case hg => rfl); (case hr => first | (go_simp; done) | (go_simp; rfl)); intro gb159 hg w8 hbox hb; have n0_ := Aside0.mk (below_step (by repeat (first | (with_reducible first | exact HB.out | apply below_alloc | apply pw_below_drewN | apply below_drew1) | exact HB.out)) hb); have n1_ := Aside0.mk (hbox); have n2_ := Aside0.mk ((by rw [hg]; exact (below_size (by repeat (first | (with_reducible first | exact HB.out | apply below_alloc | apply pw_below_drewN | apply below_drew1) | exact HB.out))) : w.heap.size ≤ gb159)); have n3_ := Aside0.mk ((by rw [hg]; exact (below_size (by repeat (first | (with_reducible first | exact HB.out | apply below_alloc | apply pw_below_drewN | apply below_drew1) | exact HB.out))) : w.heap.size ≤ gb159)); clear HB; have HB := n0_; have BK159 := n1_; have GW159 := n2_; have GE159 := n3_; clear n0_ n1_ n2_ n3_; clear hb hbox hg; have hcz9_0 : w8.cell? ⟨gb159, 0, none⟩ = some (.int .i64 0) := (blk_cell BK159.out 0).trans rfl; have hcz9_1 : w8.cell? ⟨gb159, 1, none⟩ = some (.int .i64 0) := (blk_cell BK159.out 1).trans rfl; have hcz9_2 : w8.cell? ⟨gb159, 2, none⟩ = some (.slice none 0 0) := (blk_cell BK159.out 2).trans rfl; have hcz9_3 : w8.cell? ⟨gb159, 3, none⟩ = some (.int .i64 0) := (blk_cell BK159.out 3).trans rfl; have hfz9_0 := blk_frozen BK159.out 0; have hfz9_1 := blk_frozen BK159.out 1; have hfz9_2 := blk_frozen BK159.out 2; have hfz9_3 := blk_frozen BK159.out 3))
                repeat (go_quiet (first | ((with_reducible refine gate_dst (N := 6) rfl ?_); (try (refine gate_guard (by rfl) ?_; dsimp only)); refine box_event ?hg (N := 6) ?hd (cs := #[.int .i64 0, .int .i64 0, .slice none 0 0, .int .i64 0]) (t := 70) ?hr ?_; (case hd => rfl); (case hg => rfl); (case hr => first | (go_simp; done) | (go_simp; rfl)); intro gb159 hg w8 hbox hb; have n0_ := Aside0.mk (below_step (by repeat (first | (with_reducible first | exact HB.out | apply below_alloc | apply pw_below_drewN | apply below_drew1) | exact HB.out)) hb); have n1_ := Aside0.mk (hbox); have n2_ := Aside0.mk ((by rw [hg]; exact (below_size (by repeat (first | (with_reducible first | exact HB.out | apply below_alloc | apply pw_below_drewN | apply below_drew1) | exact HB.out))) : w.heap.size ≤ gb159)); have n3_ := Aside0.mk ((by rw [hg]; exact (below_size (by repeat (first | (with_reducible first | exact HB.out | apply below_alloc | apply pw_below_drewN | apply below_drew1) | exact HB.out))) : w.heap.size ≤ gb159)); clear HB; have HB := n0_; have BK159 := n1_; have GW159 := n2_; have GE159 := n3_; clear n0_ n1_ n2_ n3_; clear hb hbox hg; have hcz9_0 : w8.cell? ⟨gb159, 0, none⟩ = some (.int .i64 0) := (blk_cell BK159.out 0).trans rfl; have hcz9_1 : w8.cell? ⟨gb159, 1, none⟩ = some (.int .i64 0) := (blk_cell BK159.out 1).trans rfl; have hcz9_2 : w8.cell? ⟨gb159, 2, none⟩ = some (.slice none 0 0) := (blk_cell BK159.out 2).trans rfl; have hcz9_3 : w8.cell? ⟨gb159, 3, none⟩ = some (.int .i64 0) := (blk_cell BK159.out 3).trans rfl; have hfz9_0 := blk_frozen BK159.out 0; have hfz9_1 := blk_frozen BK159.out 1; have hfz9_2 := blk_frozen BK159.out 2; have hfz9_3 := blk_frozen BK159.out 3)); try go_wp2_with (first | ((with_reducible refine gate_dst (N := 6) rfl ?_); (try (refine gate_guard (by rfl) ?_; dsimp only)); refine box_event ?hg (N := 6) ?hd (cs := #[.int .i64 0, .int .i64 0, .slice none 0 0, .int .i64 0]) (t := 70) ?hr ?_; (case hd => rfl); (case hg => rfl); (case hr => first | (go_simp; done) | (go_simp; rfl)); intro gb159 hg w8 hbox hb; have n0_ := Aside0.mk (below_step (by repeat (first | (with_reducible first | exact HB.out | apply below_alloc | apply pw_below_drewN | apply below_drew1) | exact HB.out)) hb); have n1_ := Aside0.mk (hbox); have n2_ := Aside0.mk ((by rw [hg]; exact (below_size (by repeat (first | (with_reducible first | exact HB.out | apply below_alloc | apply pw_below_drewN | apply below_drew1) | exact HB.out))) : w.heap.size ≤ gb159)); have n3_ := Aside0.mk ((by rw [hg]; exact (below_size (by repeat (first | (with_reducible first | exact HB.out | apply below_alloc | apply pw_below_drewN | apply below_drew1) | exact HB.out))) : w.heap.size ≤ gb159)); clear HB; have HB := n0_; have BK159 := n1_; have GW159 := n2_; have GE159 := n3_; clear n0_ n1_ n2_ n3_; clear hb hbox hg; have hcz9_0 : w8.cell? ⟨gb159, 0, none⟩ = some (.int .i64 0) := (blk_cell BK159.out 0).trans rfl; have hcz9_1 : w8.cell? ⟨gb159, 1, none⟩ = some (.int .i64 0) := (blk_cell BK159.out 1).trans rfl; have hcz9_2 : w8.cell? ⟨gb159, 2, none⟩ = some (.slice none 0 0) := (blk_cell BK159.out 2).trans rfl; have hcz9_3 : w8.cell? ⟨gb159, 3, none⟩ = some (.int .i64 0) := (blk_cell BK159.out 3).trans rfl; have hfz9_0 := blk_frozen BK159.out 0; have hfz9_1 := blk_frozen BK159.out 1; have hfz9_2 := blk_frozen BK159.out 2; have hfz9_3 := blk_frozen BK159.out 3)))
                go_roundg k1
                case measure => have := HK1.out; omega
                case rel => exact ⟨(wrap64 (x18_1 + 1)), (by first | rfl | (simp; done) | (simp [*]; done)), H', ⟨by have := HK1.out; omega⟩, ⟨by repeat (first | (with_reducible first | exact HB.out | apply below_alloc | apply pw_below_drewN | apply below_drew1 | refine below_set ?_ GE159.out) | exact HB.out)⟩⟩
              · rw [if_neg c7] at H
                have c7b0 : (((rd_T70 l1 x18_1).f0) == x18_1) = false := beq_eq_false_iff_ne.mpr c7
                have c7b1 : (((rd_T70 l1 x18_1).f0) != x18_1) = true := bne_iff_ne.mpr c7
                obtain rfl := Option.some.inj H
                have p158 : 0 ≤ (x18_1 : Int) := of_decide_eq_true (by first | (with_reducible assumption) | assumption)
                have q158 : x18_1 < (l1.length : Int) := of_decide_eq_true (by first | (with_reducible assumption) | assumption)
                obtain ⟨ad158, A158_2, c158_2, e158, hx158_0, hx158_1, hx158_2, hx158_3, hl158_2, hi158_2⟩ := at_T70 HR1.out x18_1 p158 q158
                cases e158
                replace hx158_0 := (HB.out.cell (World.block_lt_of_cell? w _ hx158_0)).trans hx158_0
                replace hx158_1 := (HB.out.cell (World.block_lt_of_cell? w _ hx158_1)).trans hx158_1
                replace hx158_2 := (HB.out.cell (World.block_lt_of_cell? w _ hx158_2)).trans hx158_2
                replace hx158_3 := (HB.out.cell (World.block_lt_of_cell? w _ hx158_3)).trans hx158_3
                have HR158_2 := Aside0.mk hi158_2
                have HC158_2 := Aside0.mk hl158_2
                clear hi158_2 hl158_2
                replace p158 := eq_true p158
                replace q158 := eq_true q158
                go_wp2_with (first | ((with_reducible refine gate_dst (N := 6) rfl ?_); (try (refine gate_guard (by rfl) ?_; dsimp only)); refine box_event ?hg (N := 6) ?hd (cs := #[.int .i64 0, .int .i64 0, .slice none 0 0, .int .i64 0]) (t := 70) ?hr ?_; (case hd => rfl); (case hg => rfl); (case hr => first | (go_simp; done) | (go_simp; rfl)); intro gb159 hg w10 hbox hb; have n0_ := Aside0.mk (below_step (by repeat (first | (with_reducible first | exact HB.out | apply below_alloc | apply pw_below_drewN | apply below_drew1) | exact HB.out)) hb); have n1_ := Aside0.mk (hbox); have n2_ := Aside0.mk ((by rw [hg]; exact (below_size (by repeat (first | (with_reducible first | exact HB.out | apply below_alloc | apply pw_below_drewN | apply below_drew1) | exact HB.out))) : w.heap.size ≤ gb159)); have n3_ := Aside0.mk ((by rw [hg]; exact (below_size (by repeat (first | (with_reducible first | exact HB.out | apply below_alloc | apply pw_below_drewN | apply below_drew1) | exact HB.out))) : w.heap.size ≤ gb159)); clear HB; have HB := n0_; have BK159 := n1_; have GW159 := n2_; have GE159 := n3_; clear n0_ n1_ n2_ n3_; clear hb hbox hg; have hcz11_0 : w10.cell? ⟨gb159, 0, none⟩ = some (.int .i64 0) := (blk_cell BK159.out 0).trans rfl; have hcz11_1 : w10.cell? ⟨gb159, 1, none⟩ = some (.int .i64 0) := (blk_cell BK159.out 1).trans rfl; have hcz11_2 : w10.cell? ⟨gb159, 2, none⟩ = some (.slice none 0 0) := (blk_cell BK159.out 2).trans rfl; have hcz11_3 : w10.cell? ⟨gb159, 3, none⟩ = some (.int .i64 0) := (blk_cell BK159.out 3).trans rfl; have hfz11_0 := blk_frozen BK159.out 0; have hfz11_1 := blk_frozen BK159.out 1; have hfz11_2 := blk_frozen BK159.out 2; have hfz11_3 := blk_frozen BK159.out 3))
                repeat (go_quiet (first | ((with_reducible refine gate_dst (N := 6) rfl ?_); (try (refine gate_guard (by rfl) ?_; dsimp only)); refine box_event ?hg (N := 6) ?hd (cs := #[.int .i64 0, .int .i64 0, .slice none 0 0, .int .i64 0]) (t := 70) ?hr ?_; (case hd => rfl); (case hg => rfl); (case hr => first | (go_simp; done) | (go_simp; rfl)); intro gb159 hg w10 hbox hb; have n0_ := Aside0.mk (below_step (by repeat (first | (with_reducible first | exact HB.out | apply below_alloc | apply pw_below_drewN | apply below_drew1) | exact HB.out)) hb); have n1_ := Aside0.mk (hbox); have n2_ := Aside0.mk ((by rw [hg]; exact (below_size (by repeat (first | (with_reducible first | exact HB.out | apply below_alloc | apply pw_below_drewN | apply below_drew1) | exact HB.out))) : w.heap.size ≤ gb159)); have n3_ := Aside0.mk ((by rw [hg]; exact (below_size (by repeat (first | (with_reducible first | exact HB.out | apply below_alloc | apply pw_below_drewN | apply below_drew1) | exact HB.out))) : w.heap.size ≤ gb159)); clear HB; have HB := n0_; have BK159 := n1_; have GW159 := n2_; have GE159 := n3_; clear n0_ n1_ n2_ n3_; clear hb hbox hg; have hcz11_0 : w10.cell? ⟨gb159, 0, none⟩ = some (.int .i64 0) := (blk_cell BK159.out 0).trans rfl; have hcz11_1 : w10.cell? ⟨gb159, 1, none⟩ = some (.int .i64 0) := (blk_cell BK159.out 1).trans rfl; have hcz11_2 : w10.cell? ⟨gb159, 2, none⟩ = some (.slice none 0 0) := (blk_cell BK159.out 2).trans rfl; have hcz11_3 : w10.cell? ⟨gb159, 3, none⟩ = some (.int .i64 0) := (blk_cell BK159.out 3).trans rfl; have hfz11_0 := blk_frozen BK159.out 0; have hfz11_1 := blk_frozen BK159.out 1; have hfz11_2 := blk_frozen BK159.out 2; have hfz11_3 := blk_frozen BK159.out 3)); try go_wp2_with (first | ((with_reducible refine gate_dst (N := 6) rfl ?_); (try (refine gate_guard (by rfl) ?_; dsimp only)); refine box_event ?hg (N := 6) ?hd (cs := #[.int .i64 0, .int .i64 0, .slice none 0 0, .int .i64 0]) (t := 70) ?hr ?_; (case hd => rfl); (case hg => rfl); (case hr => first | (go_simp; done) | (go_simp; rfl)); intro gb159 hg w10 hbox hb; have n0_ := Aside0.mk (below_step (by repeat (first | (with_reducible first | exact HB.out | apply below_alloc | apply pw_below_drewN | apply below_drew1) | exact HB.out)) hb); have n1_ := Aside0.mk (hbox); have n2_ := Aside0.mk ((by rw [hg]; exact (below_size (by repeat (first | (with_reducible first | exact HB.out | apply below_alloc | apply pw_below_drewN | apply below_drew1) | exact HB.out))) : w.heap.size ≤ gb159)); have n3_ := Aside0.mk ((by rw [hg]; exact (below_size (by repeat (first | (with_reducible first | exact HB.out | apply below_alloc | apply pw_below_drewN | apply below_drew1) | exact HB.out))) : w.heap.size ≤ gb159)); clear HB; have HB := n0_; have BK159 := n1_; have GW159 := n2_; have GE159 := n3_; clear n0_ n1_ n2_ n3_; clear hb hbox hg; have hcz11_0 : w10.cell? ⟨gb159, 0, none⟩ = some (.int .i64 0) := (blk_cell BK159.out 0).trans rfl; have hcz11_1 : w10.cell? ⟨gb159, 1, none⟩ = some (.int .i64 0) := (blk_cell BK159.out 1).trans rfl; have hcz11_2 : w10.cell? ⟨gb159, 2, none⟩ = some (.slice none 0 0) := (blk_cell BK159.out 2).trans rfl; have hcz11_3 : w10.cell? ⟨gb159, 3, none⟩ = some (.int .i64 0) := (blk_cell BK159.out 3).trans rfl; have hfz11_0 := blk_frozen BK159.out 0; have hfz11_1 := blk_frozen BK159.out 1; have hfz11_2 := blk_frozen BK159.out 2; have hfz11_3 := blk_frozen BK159.out 3)))
                go_ret
                exact ⟨by first | rfl | (simp [errW_none, errW_some] <;> rfl) | (simp [*, errW_none, errW_some] <;> rfl), by repeat (first | (with_reducible first | exact HB.out | apply below_alloc | apply pw_below_drewN | apply below_drew1 | refine below_set ?_ GE159.out) | exact HB.out)⟩
            · rw [if_neg c6] at H
              exact absurd H (by simp)
          · rw [if_neg c5] at H
            exact absurd H (by simp)
        · rw [if_neg c4] at H
          have c4b0 : decide (x18_1 < (l1.length : Int)) = false := decide_eq_false c4
          clear c4
          have H' := Aside0.mk H
          clear H
          go_wp2
          repeat (go_quiet (fail); try go_wp2)
          go_loopg [30] k1 (fun kq v30 w' => ∃ (x30_2 : Int), v30 = .int .i64 x30_2 ∧ Aside0 (impl_Fair.l1 kq l0 l1 l0 (l0.length : Int) x30_2 = some r) ∧ Aside0 (kq ≤ k1) ∧ Aside0 (Below w.heap.size w w'))
          case atStart => exact ⟨(0), (by first | rfl | (simp; done) | (simp [*]; done)), H', ⟨Nat.le_refl _⟩, ⟨by repeat (first | (with_reducible first | exact HB.out | apply below_alloc | apply pw_below_drewN | apply below_drew1) | exact HB.out)⟩⟩
          case round =>
            clear H'
            try clear c1
            try clear p1
            try clear q1
            try clear hx1
            try clear p2
            try clear c3
            try clear c3b0
            try clear c3b1
            try clear c3b2
            try clear c4
            try clear c4b0
            try clear c5
            try clear c5b0
            try clear c6
            try clear c6b0
            try clear p6
            try clear c7
            try clear c7b0
            try clear c7b1
            try clear hcz11_0
            try clear hcz11_1
            try clear hcz11_2
            try clear hcz11_3
            try clear hcz9_0
            try clear hcz9_1
            try clear hcz9_2
            try clear hcz9_3
            try clear hfz11_0
            try clear hfz11_1
            try clear hfz11_2
            try clear hfz11_3
            try clear hfz9_0
            try clear hfz9_1
            try clear hfz9_2
            try clear hfz9_3
            try clear hx158_0
            try clear hx158_1
            try clear hx158_2
            try clear hx158_3
            try clear p158
            try clear p2
            try clear q158
            obtain ⟨x30_2, rfl, HA, HK2, HB⟩ := hrel
            cases gk with
            | zero => exact absurd HA.out (by simp [impl_Fair.l1])
            | succ k2 =>
              have H := HA.out
              clear HA
              simp only [impl_Fair.l1] at H
              by_cases c12 : x30_2 < (l0.length : Int)
              · rw [if_pos c12] at H
                have c12b0 : decide (x30_2 < (l0.length : Int)) = true := decide_eq_true c12
                clear c12
                by_cases c13 : 0 ≤ x30_2
                · rw [if_pos c13] at H
                  have c13b0 : decide (0 ≤ x30_2) = true := decide_eq_true c13
                  clear c13
                  by_cases c14 : x30_2 < (l0.length : Int)
                  · rw [if_pos c14] at H
                    have c14b0 : decide (x30_2 < (l0.length : Int)) = true := decide_eq_true c14
                    clear c14
                    have H' := Aside0.mk H
                    clear H
                    have p160 : 0 ≤ (x30_2 : Int) := of_decide_eq_true (by first | (with_reducible assumption) | assumption)
                    have q160 : x30_2 < (l0.length : Int) := of_decide_eq_true (by first | (with_reducible assumption) | assumption)
                    obtain ⟨ad160, A160_2, c160_2, e160, hx160_0, hx160_1, hx160_2, hx160_3, hx160_4, hl160_2, hi160_2⟩ := at_T71 HR0.out x30_2 p160 q160
                    cases e160
                    replace hx160_0 := (HB.out.cell (World.block_lt_of_cell? w _ hx160_0)).trans hx160_0
                    replace hx160_1 := (HB.out.cell (World.block_lt_of_cell? w _ hx160_1)).trans hx160_1
                    replace hx160_2 := (HB.out.cell (World.block_lt_of_cell? w _ hx160_2)).trans hx160_2
                    replace hx160_3 := (HB.out.cell (World.block_lt_of_cell? w _ hx160_3)).trans hx160_3
                    replace hx160_4 := (HB.out.cell (World.block_lt_of_cell? w _ hx160_4)).trans hx160_4
                    have HR160_2 := Aside0.mk hi160_2
                    have HC160_2 := Aside0.mk hl160_2
                    clear hi160_2 hl160_2
                    replace p160 := eq_true p160
                    replace q160 := eq_true q160
                    go_wp2_with (first | ((with_reducible refine gate_dst (N := 8) rfl ?_); (try (refine gate_guard (by rfl) ?_; dsimp only)); refine box_event ?hg (N := 8) ?hd (cs := #[.int .i64 0, .int .i64 0, .slice none 0 0, .int .i64 0, .int .i64 0]) (t := 71) ?hr ?_; (case hd => rfl); (case hg => rfl); (case hr => first | (go_simp; done) | (go_simp; rfl)); intro gb161 hg w15 hbox hb; have n0_ := Aside0.mk (below_step (by repeat (first | (with_reducible first | exact HB.out | apply below_alloc | apply pw_below_drewN | apply below_drew1) | exact HB.out)) hb); have n1_ := Aside0.mk (hbox); have n2_ := Aside0.mk ((by rw [hg]; exact (below_size (by repeat (first | (with_reducible first | exact HB.out | apply below_alloc | apply pw_below_drewN | apply below_drew1) | exact HB.out))) : w.heap.size ≤ gb161)); have n3_ := Aside0.mk ((by rw [hg]; exact (below_size (by repeat (first | (with_reducible first | exact HB.out | apply below_alloc | apply pw_below_drewN | apply below_drew1) | exact HB.out))) : w.heap.size ≤ gb161)); clear HB; have HB := n0_; have BK161 := n1_; have GW161 := n2_; have GE161 := n3_; clear n0_ n1_ n2_ n3_; clear hb hbox hg; have hcz16_0 : w15.cell? ⟨gb161, 0, none⟩ = some (.int .i64 0) := (blk_cell BK161.out 0).trans rfl; have hcz16_1 : w15.cell? ⟨gb161, 1, none⟩ = some (.int .i64 0) := (blk_cell BK161.out 1).trans rfl; have hcz16_2 : w15.cell? ⟨gb161, 2, none⟩ = some (.slice none 0 0) := (blk_cell BK161.out 2).trans rfl; have hcz16_3 : w15.cell? ⟨gb161, 3, none⟩ = some (.int .i64 0) := (blk_cell BK161.out 3).trans rfl; have hcz16_4 : w15.cell? ⟨gb161, 4, none⟩ = some (.int .i64 0) := (blk_cell BK161.out 4).trans rfl; have hfz16_0 := blk_frozen BK161.out 0; have hfz16_1 := blk_frozen BK161.out 1; have hfz16_2 := blk_frozen BK161.out 2; have hfz16_3 := blk_frozen BK161.out 3; have hfz16_4 := blk_frozen BK161.out 4))
                    repeat (go_quiet (first | ((with_reducible refine gate_dst (N := 8) rfl ?_); (try (refine gate_guard (by rfl) ?_; dsimp only)); refine box_event ?hg (N := 8) ?hd (cs := #[.int .i64 0, .int .i64 0, .slice none 0 0, .int .i64 0, .int .i64 0]) (t := 71) ?hr ?_; (case hd => rfl); (case hg => rfl); (case hr => first | (go_simp; done) | (go_simp; rfl)); intro gb161 hg w15 hbox hb; have n0_ := Aside0.mk (below_step (by repeat (first | (with_reducible first | exact HB.out | apply below_alloc | apply pw_below_drewN | apply below_drew1) | exact HB.out)) hb); have n1_ := Aside0.mk (hbox); have n2_ := Aside0.mk ((by rw [hg]; exact (below_size (by repeat (first | (with_reducible first | exact HB.out | apply below_alloc | apply pw_below_drewN | apply below_drew1) | exact HB.out))) : w.heap.size ≤ gb161)); have n3_ := Aside0.mk ((by rw [hg]; exact (below_size (by repeat (first | (with_reducible first | exact HB.out | apply below_alloc | apply pw_below_drewN | apply below_drew1) | exact HB.out))) : w.heap.size ≤ gb161)); clear HB; have HB := n0_; have BK161 := n1_; have GW161 := n2_; have GE161 := n3_; clear n0_ n1_ n2_ n3_; clear hb hbox hg; have hcz16_0 : w15.cell? ⟨gb161, 0, none⟩ = some (.int .i64 0) := (blk_cell BK161.out 0).trans rfl; have hcz16_1 : w15.cell? ⟨gb161, 1, none⟩ = some (.int .i64 0) := (blk_cell BK161.out 1).trans rfl; have hcz16_2 : w15.cell? ⟨gb161, 2, none⟩ = some (.slice none 0 0) := (blk_cell BK161.out 2).trans rfl; have hcz16_3 : w15.cell? ⟨gb161, 3, none⟩ = some (.int .i64 0) := (blk_cell BK161.out 3).trans rfl; have hcz16_4 : w15.cell? ⟨gb161, 4, none⟩ = some (.int .i64 0) := (blk_cell BK161.out 4).trans rfl; have hfz16_0 := blk_frozen BK161.out 0; have hfz16_1 := blk_frozen BK161.out 1; have hfz16_2 := blk_frozen BK161.out 2; have hfz16_3 := blk_frozen BK161.out 3; have hfz16_4 := blk_frozen BK161.out 4)); try go_wp2_with (first | ((with_reducible refine gate_dst (N := 8) rfl ?_); (try (refine gate_guard (by rfl) ?_; dsimp only)); refine box_event ?hg (N := 8) ?hd (cs := #[.int .i64 0, .int .i64 0, .slice none 0 0, .int .i64 0, .int .i64 0]) (t := 71) ?hr ?_; (case hd => rfl); (case hg => rfl); (case hr => first | (go_simp; done) | (go_simp; rfl)); intro gb161 hg w15 hbox hb; have n0_ := Aside0.mk (below_step (by repeat (first | (with_reducible first | exact HB.out | apply below_alloc | apply pw_below_drewN | apply below_drew1) | exact HB.out)) hb); have n1_ := Aside0.mk (hbox); have n2_ := Aside0.mk ((by rw [hg]; exact (below_size (by repeat (first | (with_reducible first | exact HB.out | apply below_alloc | apply pw_below_drewN | apply below_drew1) | exact HB.out))) : w.heap.size ≤ gb161)); have n3_ := Aside0.mk ((by rw [hg]; exact (below_size (by repeat (first | (with_reducible first | exact HB.out | apply below_alloc | apply pw_below_drewN | apply below_drew1) | exact HB.out))) : w.heap.size ≤ gb161)); clear HB; have HB := n0_; have BK161 := n1_; have GW161 := n2_; have GE161 := n3_; clear n0_ n1_ n2_ n3_; clear hb hbox hg; have hcz16_0 : w15.cell? ⟨gb161, 0, none⟩ = some (.int .i64 0) := (blk_cell BK161.out 0).trans rfl; have hcz16_1 : w15.cell? ⟨gb161, 1, none⟩ = some (.int .i64 0) := (blk_cell BK161.out 1).trans rfl; have hcz16_2 : w15.cell? ⟨gb161, 2, none⟩ = some (.slice none 0 0) := (blk_cell BK161.out 2).trans rfl; have hcz16_3 : w15.cell? ⟨gb161, 3, none⟩ = some (.int .i64 0) := (blk_cell BK161.out 3).trans rfl; have hcz16_4 : w15.cell? ⟨gb161, 4, none⟩ = some (.int .i64 0) := (blk_cell BK161.out 4).trans rfl; have hfz16_0 := blk_frozen BK161.out 0; have hfz16_1 := blk_frozen BK161.out 1; have hfz16_2 := blk_frozen BK161.out 2; have hfz16_3 := blk_frozen BK161.out 3; have hfz16_4 := blk_frozen BK161.out 4)))
                    go_loopg [37] k2 (fun kq v37 w' => ∃ (x37_3 : Int), v37 = .int .i64 x37_3 ∧ Aside0 (impl_Fair.l2 kq l0 l1 x30_2 l0 (l0.length : Int) x30_2 l0 (l0.length : Int) x37_3 ((rd_T71 l0 x30_2).f0) ((rd_T71 l0 x30_2).f1) ((rd_T71 l0 x30_2).f2) ((rd_T71 l0 x30_2).f3) ((rd_T71 l0 x30_2).f4) = some r) ∧ Aside0 (kq ≤ k2) ∧ Aside0 (w'.heap[gb161]? = some (.cells #[.int .i64 ((rd_T71 l0 x30_2).f0), .int .i64 ((rd_T71 l0 x30_2).f1), (.slice A160_2 ((rd_T71 l0 x30_2).f2).length c160_2), .int .i64 ((rd_T71 l0 x30_2).f3), .int .i64 ((rd_T71 l0 x30_2).f4)] 71 (0, 0))) ∧ Aside0 (Below w.heap.size w w'))
                    case atStart => exact ⟨(0), (by first | rfl | (simp; done) | (simp [*]; done)), H', ⟨Nat.le_refl _⟩, ⟨by (with_reducible repeat (first | refine blk_drewN ?_ _ | refine blk_drew ?_ | refine blk_alloc ?_ _)); refine blk_put (cs := #[.int .i64 ((rd_T71 l0 x30_2).f0), .int .i64 ((rd_T71 l0 x30_2).f1), .slice A160_2 ((rd_T71 l0 x30_2).f2).length c160_2, .int .i64 ((rd_T71 l0 x30_2).f3), .int .i64 0]) ?_ 4 _ rfl; (with_reducible repeat (first | refine blk_drewN ?_ _ | refine blk_drew ?_ | refine blk_alloc ?_ _)); refine blk_put (cs := #[.int .i64 ((rd_T71 l0 x30_2).f0), .int .i64 ((rd_T71 l0 x30_2).f1), .slice A160_2 ((rd_T71 l0 x30_2).f2).length c160_2, .int .i64 0, .int .i64 0]) ?_ 3 _ rfl; (with_reducible repeat (first | refine blk_drewN ?_ _ | refine blk_drew ?_ | refine blk_alloc ?_ _)); refine blk_put (cs := #[.int .i64 ((rd_T71 l0 x30_2).f0), .int .i64 ((rd_T71 l0 x30_2).f1), .slice none 0 0, .int .i64 0, .int .i64 0]) ?_ 2 _ rfl; (with_reducible repeat (first | refine blk_drewN ?_ _ | refine blk_drew ?_ | refine blk_alloc ?_ _)); refine blk_put (cs := #[.int .i64 ((rd_T71 l0 x30_2).f0), .int .i64 0, .slice none 0 0, .int .i64 0, .int .i64 0]) ?_ 1 _ rfl; (with_reducible repeat (first | refine blk_drewN ?_ _ | refine blk_drew ?_ | refine blk_alloc ?_ _)); refine blk_put (cs := #[.int .i64 0, .int .i64 0, .slice none 0 0, .int .i64 0, .int .i64 0]) ?_ 0 _ rfl; (with_reducible repeat (first | refine blk_drewN ?_ _ | refine blk_drew ?_ | refine blk_alloc ?_ _)); exact BK161.out⟩, ⟨by repeat (first | (with_reducible first | exact HB.out | apply below_alloc | apply pw_below_drewN | apply below_drew1 | refine below_set ?_ GE161.out) | exact HB.out)⟩⟩
                    case round =>
                      clear H'
                      try clear c1
                      try clear p1
                      try clear q1
                      try clear hx1
                      try clear p2
                      try clear c3
                      try clear c3b0
                      try clear c3b1
                      try clear c3b2
                      try clear c4
                      try clear c4b0
                      try clear c5
                      try clear c5b0
                      try clear c6
                      try clear c6b0
                      try clear p6
                      try clear c7
                      try clear c7b0
                      try clear c7b1
                      try clear c12
                      try clear c12b0
                      try clear c13
                      try clear c13b0
                      try clear c14
                      try clear c14b0
                      try clear c15
                      try clear p15
                      try clear q15
                      try clear hx15
                      try clear c16
                      try clear p16
                      try clear q16
                      try clear hx16
                      try clear hcz11_0
                      try clear hcz11_1
                      try clear hcz11_2
                      try clear hcz11_3
                      try clear hcz16_0
                      try clear hcz16_1
                      try clear hcz16_2
                      try clear hcz16_3
                      try clear hcz16_4
                      try clear hcz9_0
                      try clear hcz9_1
                      try clear hcz9_2
                      try clear hcz9_3
                      try clear hfz11_0
                      try clear hfz11_1
                      try clear hfz11_2
                      try clear hfz11_3
                      try clear hfz16_0
                      try clear hfz16_1
                      try clear hfz16_2
                      try clear hfz16_3
                      try clear hfz16_4
                      try clear hfz9_0
                      try clear hfz9_1
                      try clear hfz9_2
                      try clear hfz9_3
                      try clear hx158_0
                      try clear hx158_1
                      try clear hx158_2
                      try clear hx158_3
                      try clear hx160_0
                      try clear hx160_1
                      try clear hx160_2
                      try clear hx160_3
                      try clear hx160_4
                      try clear p1
                      try clear p158
                      try clear p160
                      try clear p2
                      try clear p6
                      try clear q1
                      try clear q158
                      try clear q160
                      obtain ⟨x37_3, rfl, HA, HK3, BK161, HB⟩ := hrel
                      cases gk with
                      | zero => exact absurd HA.out (by simp [impl_Fair.l2])
                      | succ k3 =>
                        have H := HA.out
                        clear HA
                        simp only [impl_Fair.l2] at H
                        by_cases c17 : x37_3 < (l0.length : Int)
                        · rw [if_pos c17] at H
                          have c17b0 : decide (x37_3 < (l0.length : Int)) = true := decide_eq_true c17
                          clear c17
                          by_cases c18 : 0 ≤ x37_3
                          · rw [if_pos c18] at H
                            have c18b0 : decide (0 ≤ x37_3) = true := decide_eq_true c18
                            clear c18
                            by_cases c19 : x37_3 < (l0.length : Int)
                            · rw [if_pos c19] at H
                              have c19b0 : decide (x37_3 < (l0.length : Int)) = true := decide_eq_true c19
                              clear c19
                              have HC20 := Aside0.mk H
                              clear H
                              have p162 : 0 ≤ (x37_3 : Int) := of_decide_eq_true (by first | (with_reducible assumption) | assumption)
                              have q162 : x37_3 < (l0.length : Int) := of_decide_eq_true (by first | (with_reducible assumption) | assumption)
                              obtain ⟨ad162, A162_2, c162_2, e162, hx162_0, hx162_1, hx162_2, hx162_3, hx162_4, hl162_2, hi162_2⟩ := at_T71 HR0.out x37_3 p162 q162
                              obtain rfl : ad160 = ad162 := (by injection e162)
                              replace hx162_0 := (HB.out.cell (World.block_lt_of_cell? w _ hx162_0)).trans hx162_0
                              replace hx162_1 := (HB.out.cell (World.block_lt_of_cell? w _ hx162_1)).trans hx162_1
                              replace hx162_2 := (HB.out.cell (World.block_lt_of_cell? w _ hx162_2)).trans hx162_2
                              replace hx162_3 := (HB.out.cell (World.block_lt_of_cell? w _ hx162_3)).trans hx162_3
                              replace hx162_4 := (HB.out.cell (World.block_lt_of_cell? w _ hx162_4)).trans hx162_4
                              have HR162_2 := Aside0.mk hi162_2
                              have HC162_2 := Aside0.mk hl162_2
                              clear hi162_2 hl162_2
                              replace p162 := eq_true p162
                              replace q162 := eq_true q162
                              go_upto_region 15 with (first | ((with_reducible refine gate_dst (N := 10) rfl ?_); (try (refine gate_guard (by rfl) ?_; dsimp only)); refine box_event ?hg (N := 10) ?hd (cs := #[.int .i64 0, .int .i64 0, .slice none 0 0, .int .i64 0, .int .i64 0]) (t := 71) ?hr ?_; (case hd => rfl); (case hg => rfl); (case hr => first | (go_simp; done) | (go_simp; rfl)); intro gb163 hg w21 hbox hb; have n0_ := Aside0.mk (blk_below (g := gb161) (o := .cells #[.int .i64 ((rd_T71 l0 x30_2).f0), .int .i64 ((rd_T71 l0 x30_2).f1), .slice A160_2 ((rd_T71 l0 x30_2).f2).length c160_2, .int .i64 ((rd_T71 l0 x30_2).f3), .int .i64 ((rd_T71 l0 x30_2).f4)] 71 (0, 0)) (by (with_reducible repeat (first | refine blk_drewN ?_ _ | refine blk_drew ?_ | refine blk_alloc ?_ _)); exact BK161.out) hb); have n1_ := Aside0.mk (below_step (by repeat (first | (with_reducible first | exact HB.out | apply below_alloc | apply pw_below_drewN | apply below_drew1 | refine below_set ?_ GE161.out) | exact HB.out)) hb); have n2_ := Aside0.mk (hbox); have n3_ := Aside0.mk ((by rw [hg]; exact (below_size (by repeat (first | (with_reducible first | exact HB.out | apply below_alloc | apply pw_below_drewN | apply below_drew1 | refine below_set ?_ GE161.out) | exact HB.out))) : w.heap.size ≤ gb163)); have n4_ := Aside0.mk ((by rw [hg]; exact (below_size (by repeat (first | (with_reducible first | exact HB.out | apply below_alloc | apply pw_below_drewN | apply below_drew1 | refine below_set ?_ GE161.out) | exact HB.out))) : w.heap.size ≤ gb163)); have n5_ := Aside0.mk ((by rw [hg]; exact Nat.ne_of_lt (blk_lt (g := gb161) (o := .cells #[.int .i64 ((rd_T71 l0 x30_2).f0), .int .i64 ((rd_T71 l0 x30_2).f1), .slice A160_2 ((rd_T71 l0 x30_2).f2).length c160_2, .int .i64 ((rd_T71 l0 x30_2).f3), .int .i64 ((rd_T71 l0 x30_2).f4)] 71 (0, 0)) (by (with_reducible repeat (first | refine blk_drewN ?_ _ | refine blk_drew ?_ | refine blk_alloc ?_ _)); exact BK161.out)) : gb161 ≠ gb163)); have n6_ := Aside0.mk ((by rw [hg]; exact Nat.ne_of_gt (blk_lt (g := gb161) (o := .cells #[.int .i64 ((rd_T71 l0 x30_2).f0), .int .i64 ((rd_T71 l0 x30_2).f1), .slice A160_2 ((rd_T71 l0 x30_2).f2).length c160_2, .int .i64 ((rd_T71 l0 x30_2).f3), .int .i64 ((rd_T71 l0 x30_2).f4)] 71 (0, 0)) (by (with_reducible repeat (first | refine blk_drewN ?_ _ | refine blk_drew ?_ | refine blk_alloc ?_ _)); exact BK161.out)) : gb163 ≠ gb161)); clear BK161; clear HB; have BK161 := n0_; have HB := n1_; have BK163 := n2_; have GW163 := n3_; have GE163 := n4_; have NB161_163 := n5_; have NB163_161 := n6_; clear n0_ n1_ n2_ n3_ n4_ n5_ n6_; clear hb hbox hg; have hnb22 := NB163_161.out; have hnc22 := NB161_163.out; have hcz23_0 : w21.cell? ⟨gb163, 0, none⟩ = some (.int .i64 0) := (blk_cell BK163.out 0).trans rfl; have hcz23_1 : w21.cell? ⟨gb163, 1, none⟩ = some (.int .i64 0) := (blk_cell BK163.out 1).trans rfl; have hcz23_2 : w21.cell? ⟨gb163, 2, none⟩ = some (.slice none 0 0) := (blk_cell BK163.out 2).trans rfl; have hcz23_3 : w21.cell? ⟨gb163, 3, none⟩ = some (.int .i64 0) := (blk_cell BK163.out 3).trans rfl; have hcz23_4 : w21.cell? ⟨gb163, 4, none⟩ = some (.int .i64 0) := (blk_cell BK163.out 4).trans rfl; have hfz23_0 := blk_frozen BK163.out 0; have hfz23_1 := blk_frozen BK163.out 1; have hfz23_2 := blk_frozen BK163.out 2; have hfz23_3 := blk_frozen BK163.out 3; have hfz23_4 := blk_frozen BK163.out 4))
                              repeat (go_quiet (first | ((with_reducible refine gate_dst (N := 10) rfl ?_); (try (refine gate_guard (by rfl) ?_; dsimp only)); refine box_event ?hg (N := 10) ?hd (cs := #[.int .i64 0, .int .i64 0, .slice none 0 0, .int .i64 0, .int .i64 0]) (t := 71) ?hr ?_; (case hd => rfl); (case hg => rfl); (case hr => first | (go_simp; done) | (go_simp; rfl)); intro gb163 hg w21 hbox hb; have n0_ := Aside0.mk (blk_below (g := gb161) (o := .cells #[.int .i64 ((rd_T71 l0 x30_2).f0), .int .i64 ((rd_T71 l0 x30_2).f1), .slice A160_2 ((rd_T71 l0 x30_2).f2).length c160_2, .int .i64 ((rd_T71 l0 x30_2).f3), .int .i64 ((rd_T71 l0 x30_2).f4)] 71 (0, 0)) (by (with_reducible repeat (first | refine blk_drewN ?_ _ | refine blk_drew ?_ | refine blk_alloc ?_ _)); exact BK161.out) hb); have n1_ := Aside0.mk (below_step (by repeat (first | (with_reducible first | exact HB.out | apply below_alloc | apply pw_below_drewN | apply below_drew1 | refine below_set ?_ GE161.out) | exact HB.out)) hb); have n2_ := Aside0.mk (hbox); have n3_ := Aside0.mk ((by rw [hg]; exact (below_size (by repeat (first | (with_reducible first | exact HB.out | apply below_alloc | apply pw_below_drewN | apply below_drew1 | refine below_set ?_ GE161.out) | exact HB.out))) : w.heap.size ≤ gb163)); have n4_ := Aside0.mk ((by rw [hg]; exact (below_size (by repeat (first | (with_reducible first | exact HB.out | apply below_alloc | apply pw_below_drewN | apply below_drew1 | refine below_set ?_ GE161.out) | exact HB.out))) : w.heap.size ≤ gb163)); have n5_ := Aside0.mk ((by rw [hg]; exact Nat.ne_of_lt (blk_lt (g := gb161) (o := .cells #[.int .i64 ((rd_T71 l0 x30_2).f0), .int .i64 ((rd_T71 l0 x30_2).f1), .slice A160_2 ((rd_T71 l0 x30_2).f2).length c160_2, .int .i64 ((rd_T71 l0 x30_2).f3), .int .i64 ((rd_T71 l0 x30_2).f4)] 71 (0, 0)) (by (with_reducible repeat (first | refine blk_drewN ?_ _ | refine blk_drew ?_ | refine blk_alloc ?_ _)); exact BK161.out)) : gb161 ≠ gb163)); have n6_ := Aside0.mk ((by rw [hg]; exact Nat.ne_of_gt (blk_lt (g := gb161) (o := .cells #[.int .i64 ((rd_T71 l0 x30_2).f0), .int .i64 ((rd_T71 l0 x30_2).f1), .slice A160_2 ((rd_T71 l0 x30_2).f2).length c160_2, .int .i64 ((rd_T71 l0 x30_2).f3), .int .i64 ((rd_T71 l0 x30_2).f4)] 71 (0, 0)) (by (with_reducible repeat (first | refine blk_drewN ?_ _ | refine blk_drew ?_ | refine blk_alloc ?_ _)); exact BK161.out)) : gb163 ≠ gb161)); clear BK161; clear HB; have BK161 := n0_; have HB := n1_; have BK163 := n2_; have GW163 := n3_; have GE163 := n4_; have NB161_163 := n5_; have NB163_161 := n6_; clear n0_ n1_ n2_ n3_ n4_ n5_ n6_; clear hb hbox hg; have hnb22 := NB163_161.out; have hnc22 := NB161_163.out; have hcz23_0 : w21.cell? ⟨gb163, 0, none⟩ = some (.int .i64 0) := (blk_cell BK163.out 0).trans rfl; have hcz23_1 : w21.cell? ⟨gb163, 1, none⟩ = some (.int .i64 0) := (blk_cell BK163.out 1).trans rfl; have hcz23_2 : w21.cell? ⟨gb163, 2, none⟩ = some (.slice none 0 0) := (blk_cell BK163.out 2).trans rfl; have hcz23_3 : w21.cell? ⟨gb163, 3, none⟩ = some (.int .i64 0) := (blk_cell BK163.out 3).trans rfl; have hcz23_4 : w21.cell? ⟨gb163, 4, none⟩ = some (.int .i64 0) := (blk_cell BK163.out 4).trans rfl; have hfz23_0 := blk_frozen BK163.out 0; have hfz23_1 := blk_frozen BK163.out 1; have hfz23_2 := blk_frozen BK163.out 2; have hfz23_3 := blk_frozen BK163.out 3; have hfz23_4 := blk_frozen BK163.out 4)); go_upto_region 15 with (first | ((with_reducible refine gate_dst (N := 10) rfl ?_); (try (refine gate_guard (by rfl) ?_; dsimp only)); refine box_event ?hg (N := 10) ?hd (cs := #[.int .i64 0, .int .i64 0, .slice none 0 0, .int .i64 0, .int .i64 0]) (t := 71) ?hr ?_; (case hd => rfl); (case hg => rfl); (case hr => first | (go_simp; done) | (go_simp; rfl)); intro gb163 hg w21 hbox hb; have n0_ := Aside0.mk (blk_below (g := gb161) (o := .cells #[.int .i64 ((rd_T71 l0 x30_2).f0), .int .i64 ((rd_T71 l0 x30_2).f1), .slice A160_2 ((rd_T71 l0 x30_2).f2).length c160_2, .int .i64 ((rd_T71 l0 x30_2).f3), .int .i64 ((rd_T71 l0 x30_2).f4)] 71 (0, 0)) (by (with_reducible repeat (first | refine blk_drewN ?_ _ | refine blk_drew ?_ | refine blk_alloc ?_ _)); exact BK161.out) hb); have n1_ := Aside0.mk (below_step (by repeat (first | (with_reducible first | exact HB.out | apply below_alloc | apply pw_below_drewN | apply below_drew1 | refine below_set ?_ GE161.out) | exact HB.out)) hb); have n2_ := Aside0.mk (hbox); have n3_ := Aside0.mk ((by rw [hg]; exact (below_size (by repeat (first | (with_reducible first | exact HB.out | apply below_alloc | apply pw_below_drewN | apply below_drew1 | refine below_set ?_ GE161.out) | exact HB.out))) : w.heap.size ≤ gb163)); have n4_ := Aside0.mk ((by rw [hg]; exact (below_size (by repeat (first | (with_reducible first | exact HB.out | apply below_alloc | apply pw_below_drewN | apply below_drew1 | refine below_set ?_ GE161.out) | exact HB.out))) : w.heap.size ≤ gb163)); have n5_ := Aside0.mk ((by rw [hg]; exact Nat.ne_of_lt (blk_lt (g := gb161) (o := .cells #[.int .i64 ((rd_T71 l0 x30_2).f0), .int .i64 ((rd_T71 l0 x30_2).f1), .slice A160_2 ((rd_T71 l0 x30_2).f2).length c160_2, .int .i64 ((rd_T71 l0 x30_2).f3), .int .i64 ((rd_T71 l0 x30_2).f4)] 71 (0, 0)) (by (with_reducible repeat (first | refine blk_drewN ?_ _ | refine blk_drew ?_ | refine blk_alloc ?_ _)); exact BK161.out)) : gb161 ≠ gb163)); have n6_ := Aside0.mk ((by rw [hg]; exact Nat.ne_of_gt (blk_lt (g := gb161) (o := .cells #[.int .i64 ((rd_T71 l0 x30_2).f0), .int .i64 ((rd_T71 l0 x30_2).f1), .slice A160_2 ((rd_T71 l0 x30_2).f2).length c160_2, .int .i64 ((rd_T71 l0 x30_2).f3), .int .i64 ((rd_T71 l0 x30_2).f4)] 71 (0, 0)) (by (with_reducible repeat (first | refine blk_drewN ?_ _ | refine blk_drew ?_ | refine blk_alloc ?_ _)); exact BK161.out)) : gb163 ≠ gb161)); clear BK161; clear HB; have BK161 := n0_; have HB := n1_; have BK163 := n2_; have GW163 := n3_; have GE163 := n4_; have NB161_163 := n5_; have NB163_161 := n6_; clear n0_ n1_ n2_ n3_ n4_ n5_ n6_; clear hb hbox hg; have hnb22 := NB163_161.out; have hnc22 := NB161_163.out; have hcz23_0 : w21.cell? ⟨gb163, 0, none⟩ = some (.int .i64 0) := (blk_cell BK163.out 0).trans rfl; have hcz23_1 : w21.cell? ⟨gb163, 1, none⟩ = some (.int .i64 0) := (blk_cell BK163.out 1).trans rfl; have hcz23_2 : w21.cell? ⟨gb163, 2, none⟩ = some (.slice none 0 0) := (blk_cell BK163.out 2).trans rfl; have hcz23_3 : w21.cell? ⟨gb163, 3, none⟩ = some (.int .i64 0) := (blk_cell BK163.out 3).trans rfl; have hcz23_4 : w21.cell? ⟨gb163, 4, none⟩ = some (.int .i64 0) := (blk_cell BK163.out 4).trans rfl; have hfz23_0 := blk_frozen BK163.out 0; have hfz23_1 := blk_frozen BK163.out 1; have hfz23_2 := blk_frozen BK163.out 2; have hfz23_3 := blk_frozen BK163.out 3; have hfz23_4 := blk_frozen BK163.out 4)))
                              (try simp only [Act.put, List.setIfInBounds_toArray, List.set_cons_zero, List.set_cons_succ])
                              go_cut [98] (fun v98 wc => ∃ (kq : Nat) (x98_19 : Bool), v98 = .bool x98_19 ∧ Aside0 (impl_Fair.j3 kq l0 l1 x30_2 l0 (l0.length : Int) x30_2 l0 (l0.length : Int) x37_3 x98_19 ((rd_T71 l0 x30_2).f0) ((rd_T71 l0 x30_2).f1) ((rd_T71 l0 x30_2).f2) ((rd_T71 l0 x30_2).f3) ((rd_T71 l0 x30_2).f4) = some r) ∧ Aside0 (kq ≤ k3) ∧ Aside0 (wc.heap[gb161]? = some (.cells #[.int .i64 ((rd_T71 l0 x30_2).f0), .int .i64 ((rd_T71 l0 x30_2).f1), (.slice A160_2 ((rd_T71 l0 x30_2).f2).length c160_2), .int .i64 ((rd_T71 l0 x30_2).f3), .int .i64 ((rd_T71 l0 x30_2).f4)] 71 (0, 0))) ∧ Aside0 (wc.heap[gb163]? = some (.cells #[.int .i64 ((rd_T71 l0 x37_3).f0), .int .i64 ((rd_T71 l0 x37_3).f1), (.slice A162_2 ((rd_T71 l0 x37_3).f2).length c162_2), .int .i64 ((rd_T71 l0 x37_3).f3), .int .i64 ((rd_T71 l0 x37_3).f4)] 71 (0, 0))) ∧ Aside0 (Below w.heap.size w wc))
                              case first =>
                                have H := HC20.out
                                clear HC20
                                by_cases c24 : ((rd_T71 l0 x30_2).f0) = ((rd_T71 l0 x37_3).f0)
                                · rw [if_pos c24] at H
                                  have c24b0 : (((rd_T71 l0 x30_2).f0) == ((rd_T71 l0 x37_3).f0)) = true := beq_iff_eq.mpr c24
                                  have c24b1 : (((rd_T71 l0 x30_2).f0) != ((rd_T71 l0 x37_3).f0)) = false := bne_eq_false_iff_eq.mpr c24
                                  clear c24
                                  (first | rw [c24b0] | (simp only [i64_w, i32_w]; rw [c24b0]) | skip)
                                  by_cases c25 : (((rd_T71 l0 x30_2).f2).length : Int) = (((rd_T71 l0 x37_3).f2).length : Int)
                                  · rw [if_pos c25] at H
                                    have c25b0 : ((((rd_T71 l0 x30_2).f2).length : Int) == (((rd_T71 l0 x37_3).f2).length : Int)) = true := beq_iff_eq.mpr c25
                                    have c25b1 : ((((rd_T71 l0 x30_2).f2).length : Int) != (((rd_T71 l0 x37_3).f2).length : Int)) = false := bne_eq_false_iff_eq.mpr c25
                                    have c25b2 : (((rd_T71 l0 x30_2).f2).length == ((rd_T71 l0 x37_3).f2).length) = true := by first | simpa using c25 | (simp at c25 ⊢; omega)
                                    clear c25
                                    by_cases c26 : ((rd_T71 l0 x30_2).f3) = ((rd_T71 l0 x37_3).f3)
                                    · rw [if_pos c26] at H
                                      have c26b0 : (((rd_T71 l0 x30_2).f3) == ((rd_T71 l0 x37_3).f3)) = true := beq_iff_eq.mpr c26
                                      have c26b1 : (((rd_T71 l0 x30_2).f3) != ((rd_T71 l0 x37_3).f3)) = false := bne_eq_false_iff_eq.mpr c26
                                      clear c26
                                      by_cases c27 : 0 ≤ x30_2
                                      · rw [if_pos c27] at H
                                        have c27b0 : decide (0 ≤ x30_2) = true := decide_eq_true c27
                                        clear c27
                                        by_cases c28 : x30_2 < (l1.length : Int)
                                        · rw [if_pos c28] at H
                                          have c28b0 : decide (x30_2 < (l1.length : Int)) = true := decide_eq_true c28
                                          clear c28
                                          by_cases c29 : ((rd_T70 l1 x30_2).f1) ≥ 0
                                          · rw [if_pos c29] at H
                                            have c29b0 : decide (0 ≤ ((rd_T70 l1 x30_2).f1)) = true := decide_eq_true c29
                                            clear c29
                                            by_cases c30 : x37_3 < (l1.length : Int)
                                            · rw [if_pos c30] at H
                                              have c30b0 : decide (x37_3 < (l1.length : Int)) = true := decide_eq_true c30
                                              clear c30
                                              by_cases c31 : ((rd_T70 l1 x37_3).f1) ≥ 0
                                              · rw [if_pos c31] at H
                                                have c31b0 : decide (0 ≤ ((rd_T70 l1 x37_3).f1)) = true := decide_eq_true c31
                                                clear c31
                                                by_cases c32 : ((rd_T71 l0 x30_2).f1) > ((rd_T71 l0 x37_3).f1)
                                                · rw [if_pos c32] at H
                                                  have c32b0 : decide (((rd_T71 l0 x37_3).f1) < ((rd_T71 l0 x30_2).f1)) = true := decide_eq_true c32
                                                  clear c32
                                                  have H' := Aside0.mk H
                                                  clear H
                                                  have hnb33 := NB161_163.out
                                                  have hnc33 := NB163_161.out
                                                  have hcz34_0 : w21.cell? ⟨gb161, 0, none⟩ = some (.int .i64 ((rd_T71 l0 x30_2).f0)) := (blk_cell BK161.out 0).trans rfl
                                                  have hcz34_1 : w21.cell? ⟨gb161, 1, none⟩ = some (.int .i64 ((rd_T71 l0 x30_2).f1)) := (blk_cell BK161.out 1).trans rfl
                                                  have hcz34_2 : w21.cell? ⟨gb161, 2, none⟩ = some (.slice A160_2 ((rd_T71 l0 x30_2).f2).length c160_2) := (blk_cell BK161.out 2).trans rfl
                                                  have hcz34_3 : w21.cell? ⟨gb161, 3, none⟩ = some (.int .i64 ((rd_T71 l0 x30_2).f3)) := (blk_cell BK161.out 3).trans rfl
                                                  have hcz34_4 : w21.cell? ⟨gb161, 4, none⟩ = some (.int .i64 ((rd_T71 l0 x30_2).f4)) := (blk_cell BK161.out 4).trans rfl
                                                  have hfz34_0 := blk_frozen BK161.out 0
                                                  have hfz34_1 := blk_frozen BK161.out 1
                                                  have hfz34_2 := blk_frozen BK161.out 2
                                                  have hfz34_3 := blk_frozen BK161.out 3
                                                  have hfz34_4 := blk_frozen BK161.out 4
                                                  have hcz35_0 : w21.cell? ⟨gb163, 0, none⟩ = some (.int .i64 0) := (blk_cell BK163.out 0).trans rfl
                                                  have hcz35_1 : w21.cell? ⟨gb163, 1, none⟩ = some (.int .i64 0) := (blk_cell BK163.out 1).trans rfl
                                                  have hcz35_2 : w21.cell? ⟨gb163, 2, none⟩ = some (.slice none 0 0) := (blk_cell BK163.out 2).trans rfl
                                                  have hcz35_3 : w21.cell? ⟨gb163, 3, none⟩ = some (.int .i64 0) := (blk_cell BK163.out 3).trans rfl
                                                  have hcz35_4 : w21.cell? ⟨gb163, 4, none⟩ = some (.int .i64 0) := (blk_cell BK163.out 4).trans rfl
                                                  have hfz35_0 := blk_frozen BK163.out 0
                                                  have hfz35_1 := blk_frozen BK163.out 1
                                                  have hfz35_2 := blk_frozen BK163.out 2
                                                  have hfz35_3 := blk_frozen BK163.out 3
                                                  have hfz35_4 := blk_frozen BK163.out 4
                                                  have p164 : 0 ≤ (x30_2 : Int) := of_decide_eq_true (by first | (with_reducible assumption) | assumption)
                                                  have q164 : x30_2 < (l1.length : Int) := of_decide_eq_true (by first | (with_reducible assumption) | assumption)
                                                  obtain ⟨ad164, A164_2, c164_2, e164, hx164_0, hx164_1, hx164_2, hx164_3, hl164_2, hi164_2⟩ := at_T70 HR1.out x30_2 p164 q164
                                                  cases e164
                                                  have hn164_0 : ad164.block ≠ gb163 := Nat.ne_of_lt (Nat.lt_of_lt_of_le (by have := World.block_lt_of_cell? _ _ hx164_0; first | rwa [add_block] at this | exact this) GW163.out)
                                                  have hn164_1 : ad164.block ≠ gb163 := Nat.ne_of_lt (Nat.lt_of_lt_of_le (by have := World.block_lt_of_cell? _ _ hx164_0; first | rwa [add_block] at this | exact this) GW163.out)
                                                  have hn164_2 : ad164.block ≠ gb163 := Nat.ne_of_lt (Nat.lt_of_lt_of_le (by have := World.block_lt_of_cell? _ _ hx164_0; first | rwa [add_block] at this | exact this) GW163.out)
                                                  have hn164_3 : ad164.block ≠ gb163 := Nat.ne_of_lt (Nat.lt_of_lt_of_le (by have := World.block_lt_of_cell? _ _ hx164_0; first | rwa [add_block] at this | exact this) GW163.out)
                                                  have hn164_4 : ad164.block ≠ gb163 := Nat.ne_of_lt (Nat.lt_of_lt_of_le (by have := World.block_lt_of_cell? _ _ hx164_0; first | rwa [add_block] at this | exact this) GW163.out)
                                                  replace hx164_0 := (HB.out.cell (World.block_lt_of_cell? w _ hx164_0)).trans hx164_0
                                                  replace hx164_1 := (HB.out.cell (World.block_lt_of_cell? w _ hx164_1)).trans hx164_1
                                                  replace hx164_2 := (HB.out.cell (World.block_lt_of_cell? w _ hx164_2)).trans hx164_2
                                                  replace hx164_3 := (HB.out.cell (World.block_lt_of_cell? w _ hx164_3)).trans hx164_3
                                                  have HR164_2 := Aside0.mk hi164_2
                                                  have HC164_2 := Aside0.mk hl164_2
                                                  clear hi164_2 hl164_2
                                                  replace hx164_0 := (cell_far (p := ⟨gb163, 0, none⟩) (by first | (rw [add_block]; exact hn164_0) | (show (Addr.add _ _).block ≠ _; rw [add_block]; exact hn164_0) | exact hn164_0) (.int .i64 ((rd_T71 l0 x37_3).f0))).trans hx164_0
                                                  replace hx164_1 := (cell_far (p := ⟨gb163, 0, none⟩) (by first | (rw [add_block]; exact hn164_0) | (show (Addr.add _ _).block ≠ _; rw [add_block]; exact hn164_0) | exact hn164_0) (.int .i64 ((rd_T71 l0 x37_3).f0))).trans hx164_1
                                                  replace hx164_2 := (cell_far (p := ⟨gb163, 0, none⟩) (by first | (rw [add_block]; exact hn164_0) | (show (Addr.add _ _).block ≠ _; rw [add_block]; exact hn164_0) | exact hn164_0) (.int .i64 ((rd_T71 l0 x37_3).f0))).trans hx164_2
                                                  replace hx164_3 := (cell_far (p := ⟨gb163, 0, none⟩) (by first | (rw [add_block]; exact hn164_0) | (show (Addr.add _ _).block ≠ _; rw [add_block]; exact hn164_0) | exact hn164_0) (.int .i64 ((rd_T71 l0 x37_3).f0))).trans hx164_3
                                                  replace hx164_0 := (cell_far (p := ⟨gb163, 1, none⟩) (by first | (rw [add_block]; exact hn164_1) | (show (Addr.add _ _).block ≠ _; rw [add_block]; exact hn164_1) | exact hn164_1) (.int .i64 ((rd_T71 l0 x37_3).f1))).trans hx164_0
                                                  replace hx164_1 := (cell_far (p := ⟨gb163, 1, none⟩) (by first | (rw [add_block]; exact hn164_1) | (show (Addr.add _ _).block ≠ _; rw [add_block]; exact hn164_1) | exact hn164_1) (.int .i64 ((rd_T71 l0 x37_3).f1))).trans hx164_1
                                                  replace hx164_2 := (cell_far (p := ⟨gb163, 1, none⟩) (by first | (rw [add_block]; exact hn164_1) | (show (Addr.add _ _).block ≠ _; rw [add_block]; exact hn164_1) | exact hn164_1) (.int .i64 ((rd_T71 l0 x37_3).f1))).trans hx164_2
                                                  replace hx164_3 := (cell_far (p := ⟨gb163, 1, none⟩) (by first | (rw [add_block]; exact hn164_1) | (show (Addr.add _ _).block ≠ _; rw [add_block]; exact hn164_1) | exact hn164_1) (.int .i64 ((rd_T71 l0 x37_3).f1))).trans hx164_3
                                                  replace hx164_0 := (cell_far (p := ⟨gb163, 2, none⟩) (by first | (rw [add_block]; exact hn164_2) | (show (Addr.add _ _).block ≠ _; rw [add_block]; exact hn164_2) | exact hn164_2) (.slice A162_2 ((rd_T71 l0 x37_3).f2).length c162_2)).trans hx164_0
                                                  replace hx164_1 := (cell_far (p := ⟨gb163, 2, none⟩) (by first | (rw [add_block]; exact hn164_2) | (show (Addr.add _ _).block ≠ _; rw [add_block]; exact hn164_2) | exact hn164_2) (.slice A162_2 ((rd_T71 l0 x37_3).f2).length c162_2)).trans hx164_1
                                                  replace hx164_2 := (cell_far (p := ⟨gb163, 2, none⟩) (by first | (rw [add_block]; exact hn164_2) | (show (Addr.add _ _).block ≠ _; rw [add_block]; exact hn164_2) | exact hn164_2) (.slice A162_2 ((rd_T71 l0 x37_3).f2).length c162_2)).trans hx164_2
                                                  replace hx164_3 := (cell_far (p := ⟨gb163, 2, none⟩) (by first | (rw [add_block]; exact hn164_2) | (show (Addr.add _ _).block ≠ _; rw [add_block]; exact hn164_2) | exact hn164_2) (.slice A162_2 ((rd_T71 l0 x37_3).f2).length c162_2)).trans hx164_3
                                                  replace hx164_0 := (cell_far (p := ⟨gb163, 3, none⟩) (by first | (rw [add_block]; exact hn164_3) | (show (Addr.add _ _).block ≠ _; rw [add_block]; exact hn164_3) | exact hn164_3) (.int .i64 ((rd_T71 l0 x37_3).f3))).trans hx164_0
                                                  replace hx164_1 := (cell_far (p := ⟨gb163, 3, none⟩) (by first | (rw [add_block]; exact hn164_3) | (show (Addr.add _ _).block ≠ _; rw [add_block]; exact hn164_3) | exact hn164_3) (.int .i64 ((rd_T71 l0 x37_3).f3))).trans hx164_1
                                                  replace hx164_2 := (cell_far (p := ⟨gb163, 3, none⟩) (by first | (rw [add_block]; exact hn164_3) | (show (Addr.add _ _).block ≠ _; rw [add_block]; exact hn164_3) | exact hn164_3) (.int .i64 ((rd_T71 l0 x37_3).f3))).trans hx164_2
                                                  replace hx164_3 := (cell_far (p := ⟨gb163, 3, none⟩) (by first | (rw [add_block]; exact hn164_3) | (show (Addr.add _ _).block ≠ _; rw [add_block]; exact hn164_3) | exact hn164_3) (.int .i64 ((rd_T71 l0 x37_3).f3))).trans hx164_3
                                                  replace hx164_0 := (cell_far (p := ⟨gb163, 4, none⟩) (by first | (rw [add_block]; exact hn164_4) | (show (Addr.add _ _).block ≠ _; rw [add_block]; exact hn164_4) | exact hn164_4) (.int .i64 ((rd_T71 l0 x37_3).f4))).trans hx164_0
                                                  replace hx164_1 := (cell_far (p := ⟨gb163, 4, none⟩) (by first | (rw [add_block]; exact hn164_4) | (show (Addr.add _ _).block ≠ _; rw [add_block]; exact hn164_4) | exact hn164_4) (.int .i64 ((rd_T71 l0 x37_3).f4))).trans hx164_1
                                                  replace hx164_2 := (cell_far (p := ⟨gb163, 4, none⟩) (by first | (rw [add_block]; exact hn164_4) | (show (Addr.add _ _).block ≠ _; rw [add_block]; exact hn164_4) | exact hn164_4) (.int .i64 ((rd_T71 l0 x37_3).f4))).trans hx164_2
                                                  replace hx164_3 := (cell_far (p := ⟨gb163, 4, none⟩) (by first | (rw [add_block]; exact hn164_4) | (show (Addr.add _ _).block ≠ _; rw [add_block]; exact hn164_4) | exact hn164_4) (.int .i64 ((rd_T71 l0 x37_3).f4))).trans hx164_3
                                                  (try have hy164_0 := fun (n_ : Nat) => (show (((((((w21.drewN n_).setCell ⟨gb163, 0, none⟩ (.int .i64 ((rd_T71 l0 x37_3).f0))).setCell ⟨gb163, 1, none⟩ (.int .i64 ((rd_T71 l0 x37_3).f1))).setCell ⟨gb163, 2, none⟩ (.slice A162_2 ((rd_T71 l0 x37_3).f2).length c162_2)).setCell ⟨gb163, 3, none⟩ (.int .i64 ((rd_T71 l0 x37_3).f3))).setCell ⟨gb163, 4, none⟩ (.int .i64 ((rd_T71 l0 x37_3).f4)))).cell? _ = some _ from hx164_0))
                                                  (try have hy164_1 := fun (n_ : Nat) => (show (((((((w21.drewN n_).setCell ⟨gb163, 0, none⟩ (.int .i64 ((rd_T71 l0 x37_3).f0))).setCell ⟨gb163, 1, none⟩ (.int .i64 ((rd_T71 l0 x37_3).f1))).setCell ⟨gb163, 2, none⟩ (.slice A162_2 ((rd_T71 l0 x37_3).f2).length c162_2)).setCell ⟨gb163, 3, none⟩ (.int .i64 ((rd_T71 l0 x37_3).f3))).setCell ⟨gb163, 4, none⟩ (.int .i64 ((rd_T71 l0 x37_3).f4)))).cell? _ = some _ from hx164_1))
                                                  (try have hy164_2 := fun (n_ : Nat) => (show (((((((w21.drewN n_).setCell ⟨gb163, 0, none⟩ (.int .i64 ((rd_T71 l0 x37_3).f0))).setCell ⟨gb163, 1, none⟩ (.int .i64 ((rd_T71 l0 x37_3).f1))).setCell ⟨gb163, 2, none⟩ (.slice A162_2 ((rd_T71 l0 x37_3).f2).length c162_2)).setCell ⟨gb163, 3, none⟩ (.int .i64 ((rd_T71 l0 x37_3).f3))).setCell ⟨gb163, 4, none⟩ (.int .i64 ((rd_T71 l0 x37_3).f4)))).cell? _ = some _ from hx164_2))
                                                  (try have hy164_3 := fun (n_ : Nat) => (show (((((((w21.drewN n_).setCell ⟨gb163, 0, none⟩ (.int .i64 ((rd_T71 l0 x37_3).f0))).setCell ⟨gb163, 1, none⟩ (.int .i64 ((rd_T71 l0 x37_3).f1))).setCell ⟨gb163, 2, none⟩ (.slice A162_2 ((rd_T71 l0 x37_3).f2).length c162_2)).setCell ⟨gb163, 3, none⟩ (.int .i64 ((rd_T71 l0 x37_3).f3))).setCell ⟨gb163, 4, none⟩ (.int .i64 ((rd_T71 l0 x37_3).f4)))).cell? _ = some _ from hx164_3))
                                                  clear hn164_0
                                                  clear hn164_1
                                                  clear hn164_2
                                                  clear hn164_3
                                                  clear hn164_4
                                                  replace p164 := eq_true p164
                                                  replace q164 := eq_true q164
                                                  have p165 : 0 ≤ (x37_3 : Int) := of_decide_eq_true (by first | (with_reducible assumption) | assumption)
                                                  have q165 : x37_3 < (l1.length : Int) := of_decide_eq_true (by first | (with_reducible assumption) | assumption)
                                                  obtain ⟨ad165, A165_2, c165_2, e165, hx165_0, hx165_1, hx165_2, hx165_3, hl165_2, hi165_2⟩ := at_T70 HR1.out x37_3 p165 q165
                                                  obtain rfl : ad164 = ad165 := (by injection e165)
                                                  have hn165_0 : ad164.block ≠ gb163 := Nat.ne_of_lt (Nat.lt_of_lt_of_le (by have := World.block_lt_of_cell? _ _ hx165_0; first | rwa [add_block] at this | exact this) GW163.out)
                                                  have hn165_1 : ad164.block ≠ gb163 := Nat.ne_of_lt (Nat.lt_of_lt_of_le (by have := World.block_lt_of_cell? _ _ hx165_0; first | rwa [add_block] at this | exact this) GW163.out)
                                                  have hn165_2 : ad164.block ≠ gb163 := Nat.ne_of_lt (Nat.lt_of_lt_of_le (by have := World.block_lt_of_cell? _ _ hx165_0; first | rwa [add_block] at this | exact this) GW163.out)
                                                  have hn165_3 : ad164.block ≠ gb163 := Nat.ne_of_lt (Nat.lt_of_lt_of_le (by have := World.block_lt_of_cell? _ _ hx165_0; first | rwa [add_block] at this | exact this) GW163.out)
                                                  have hn165_4 : ad164.block ≠ gb163 := Nat.ne_of_lt (Nat.lt_of_lt_of_le (by have := World.block_lt_of_cell? _ _ hx165_0; first | rwa [add_block] at this | exact this) GW163.out)
                                                  replace hx165_0 := (HB.out.cell (World.block_lt_of_cell? w _ hx165_0)).trans hx165_0
                                                  replace hx165_1 := (HB.out.cell (World.block_lt_of_cell? w _ hx165_1)).trans hx165_1
                                                  replace hx165_2 := (HB.out.cell (World.block_lt_of_cell? w _ hx165_2)).trans hx165_2
                                                  replace hx165_3 := (HB.out.cell (World.block_lt_of_cell? w _ hx165_3)).trans hx165_3
                                                  have HR165_2 := Aside0.mk hi165_2
                                                  have HC165_2 := Aside0.mk hl165_2
                                                  clear hi165_2 hl165_2
                                                  replace hx165_0 := (cell_far (p := ⟨gb163, 0, none⟩) (by first | (rw [add_block]; exact hn165_0) | (show (Addr.add _ _).block ≠ _; rw [add_block]; exact hn165_0) | exact hn165_0) (.int .i64 ((rd_T71 l0 x37_3).f0))).trans hx165_0
                                                  replace hx165_1 := (cell_far (p := ⟨gb163, 0, none⟩) (by first | (rw [add_block]; exact hn165_0) | (show (Addr.add _ _).block ≠ _; rw [add_block]; exact hn165_0) | exact hn165_0) (.int .i64 ((rd_T71 l0 x37_3).f0))).trans hx165_1
                                                  replace hx165_2 := (cell_far (p := ⟨gb163, 0, none⟩) (by first | (rw [add_block]; exact hn165_0) | (show (Addr.add _ _).block ≠ _; rw [add_block]; exact hn165_0) | exact hn165_0) (.int .i64 ((rd_T71 l0 x37_3).f0))).trans hx165_2
                                                  replace hx165_3 := (cell_far (p := ⟨gb163, 0, none⟩) (by first | (rw [add_block]; exact hn165_0) | (show (Addr.add _ _).block ≠ _; rw [add_block]; exact hn165_0) | exact hn165_0) (.int .i64 ((rd_T71 l0 x37_3).f0))).trans hx165_3
                                                  replace hx165_0 := (cell_far (p := ⟨gb163, 1, none⟩) (by first | (rw [add_block]; exact hn165_1) | (show (Addr.add _ _).block ≠ _; rw [add_block]; exact hn165_1) | exact hn165_1) (.int .i64 ((rd_T71 l0 x37_3).f1))).trans hx165_0
                                                  replace hx165_1 := (cell_far (p := ⟨gb163, 1, none⟩) (by first | (rw [add_block]; exact hn165_1) | (show (Addr.add _ _).block ≠ _; rw [add_block]; exact hn165_1) | exact hn165_1) (.int .i64 ((rd_T71 l0 x37_3).f1))).trans hx165_1
                                                  replace hx165_2 := (cell_far (p := ⟨gb163, 1, none⟩) (by first | (rw [add_block]; exact hn165_1) | (show (Addr.add _ _).block ≠ _; rw [add_block]; exact hn165_1) | exact hn165_1) (.int .i64 ((rd_T71 l0 x37_3).f1))).trans hx165_2
                                                  replace hx165_3 := (cell_far (p := ⟨gb163, 1, none⟩) (by first | (rw [add_block]; exact hn165_1) | (show (Addr.add _ _).block ≠ _; rw [add_block]; exact hn165_1) | exact hn165_1) (.int .i64 ((rd_T71 l0 x37_3).f1))).trans hx165_3
                                                  replace hx165_0 := (cell_far (p := ⟨gb163, 2, none⟩) (by first | (rw [add_block]; exact hn165_2) | (show (Addr.add _ _).block ≠ _; rw [add_block]; exact hn165_2) | exact hn165_2) (.slice A162_2 ((rd_T71 l0 x37_3).f2).length c162_2)).trans hx165_0
                                                  replace hx165_1 := (cell_far (p := ⟨gb163, 2, none⟩) (by first | (rw [add_block]; exact hn165_2) | (show (Addr.add _ _).block ≠ _; rw [add_block]; exact hn165_2) | exact hn165_2) (.slice A162_2 ((rd_T71 l0 x37_3).f2).length c162_2)).trans hx165_1
                                                  replace hx165_2 := (cell_far (p := ⟨gb163, 2, none⟩) (by first | (rw [add_block]; exact hn165_2) | (show (Addr.add _ _).block ≠ _; rw [add_block]; exact hn165_2) | exact hn165_2) (.slice A162_2 ((rd_T71 l0 x37_3).f2).length c162_2)).trans hx165_2
                                                  replace hx165_3 := (cell_far (p := ⟨gb163, 2, none⟩) (by first | (rw [add_block]; exact hn165_2) | (show (Addr.add _ _).block ≠ _; rw [add_block]; exact hn165_2) | exact hn165_2) (.slice A162_2 ((rd_T71 l0 x37_3).f2).length c162_2)).trans hx165_3
                                                  replace hx165_0 := (cell_far (p := ⟨gb163, 3, none⟩) (by first | (rw [add_block]; exact hn165_3) | (show (Addr.add _ _).block ≠ _; rw [add_block]; exact hn165_3) | exact hn165_3) (.int .i64 ((rd_T71 l0 x37_3).f3))).trans hx165_0
                                                  replace hx165_1 := (cell_far (p := ⟨gb163, 3, none⟩) (by first | (rw [add_block]; exact hn165_3) | (show (Addr.add _ _).block ≠ _; rw [add_block]; exact hn165_3) | exact hn165_3) (.int .i64 ((rd_T71 l0 x37_3).f3))).trans hx165_1
                                                  replace hx165_2 := (cell_far (p := ⟨gb163, 3, none⟩) (by first | (rw [add_block]; exact hn165_3) | (show (Addr.add _ _).block ≠ _; rw [add_block]; exact hn165_3) | exact hn165_3) (.int .i64 ((rd_T71 l0 x37_3).f3))).trans hx165_2
                                                  replace hx165_3 := (cell_far (p := ⟨gb163, 3, none⟩) (by first | (rw [add_block]; exact hn165_3) | (show (Addr.add _ _).block ≠ _; rw [add_block]; exact hn165_3) | exact hn165_3) (.int .i64 ((rd_T71 l0 x37_3).f3))).trans hx165_3
                                                  replace hx165_0 := (cell_far (p := ⟨gb163, 4, none⟩) (by first | (rw [add_block]; exact hn165_4) | (show (Addr.add _ _).block ≠ _; rw [add_block]; exact hn165_4) | exact hn165_4) (.int .i64 ((rd_T71 l0 x37_3).f4))).trans hx165_0
                                                  replace hx165_1 := (cell_far (p := ⟨gb163, 4, none⟩) (by first | (rw [add_block]; exact hn165_4) | (show (Addr.add _ _).block ≠ _; rw [add_block]; exact hn165_4) | exact hn165_4) (.int .i64 ((rd_T71 l0 x37_3).f4))).trans hx165_1
                                                  replace hx165_2 := (cell_far (p := ⟨gb163, 4, none⟩) (by first | (rw [add_block]; exact hn165_4) | (show (Addr.add _ _).block ≠ _; rw [add_block]; exact hn165_4) | exact hn165_4) (.int .i64 ((rd_T71 l0 x37_3).f4))).trans hx165_2
                                                  replace hx165_3 := (cell_far (p := ⟨gb163, 4, none⟩) (by first | (rw [add_block]; exact hn165_4) | (show (Addr.add _ _).block ≠ _; rw [add_block]; exact hn165_4) | exact hn165_4) (.int .i64 ((rd_T71 l0 x37_3).f4))).trans hx165_3
                                                  (try have hy165_0 := fun (n_ : Nat) => (show (((((((w21.drewN n_).setCell ⟨gb163, 0, none⟩ (.int .i64 ((rd_T71 l0 x37_3).f0))).setCell ⟨gb163, 1, none⟩ (.int .i64 ((rd_T71 l0 x37_3).f1))).setCell ⟨gb163, 2, none⟩ (.slice A162_2 ((rd_T71 l0 x37_3).f2).length c162_2)).setCell ⟨gb163, 3, none⟩ (.int .i64 ((rd_T71 l0 x37_3).f3))).setCell ⟨gb163, 4, none⟩ (.int .i64 ((rd_T71 l0 x37_3).f4)))).cell? _ = some _ from hx165_0))
                                                  (try have hy165_1 := fun (n_ : Nat) => (show (((((((w21.drewN n_).setCell ⟨gb163, 0, none⟩ (.int .i64 ((rd_T71 l0 x37_3).f0))).setCell ⟨gb163, 1, none⟩ (.int .i64 ((rd_T71 l0 x37_3).f1))).setCell ⟨gb163, 2, none⟩ (.slice A162_2 ((rd_T71 l0 x37_3).f2).length c162_2)).setCell ⟨gb163, 3, none⟩ (.int .i64 ((rd_T71 l0 x37_3).f3))).setCell ⟨gb163, 4, none⟩ (.int .i64 ((rd_T71 l0 x37_3).f4)))).cell? _ = some _ from hx165_1))
                                                  (try have hy165_2 := fun (n_ : Nat) => (show (((((((w21.drewN n_).setCell ⟨gb163, 0, none⟩ (.int .i64 ((rd_T71 l0 x37_3).f0))).setCell ⟨gb163, 1, none⟩ (.int .i64 ((rd_T71 l0 x37_3).f1))).setCell ⟨gb163, 2, none⟩ (.slice A162_2 ((rd_T71 l0 x37_3).f2).length c162_2)).setCell ⟨gb163, 3, none⟩ (.int .i64 ((rd_T71 l0 x37_3).f3))).setCell ⟨gb163, 4, none⟩ (.int .i64 ((rd_T71 l0 x37_3).f4)))).cell? _ = some _ from hx165_2))
                                                  (try have hy165_3 := fun (n_ : Nat) => (show (((((((w21.drewN n_).setCell ⟨gb163, 0, none⟩ (.int .i64 ((rd_T71 l0 x37_3).f0))).setCell ⟨gb163, 1, none⟩ (.int .i64 ((rd_T71 l0 x37_3).f1))).setCell ⟨gb163, 2, none⟩ (.slice A162_2 ((rd_T71 l0 x37_3).f2).length c162_2)).setCell ⟨gb163, 3, none⟩ (.int .i64 ((rd_T71 l0 x37_3).f3))).setCell ⟨gb163, 4, none⟩ (.int .i64 ((rd_T71 l0 x37_3).f4)))).cell? _ = some _ from hx165_3))
                                                  clear hn165_0
                                                  clear hn165_1
                                                  clear hn165_2
                                                  clear hn165_3
                                                  clear hn165_4
                                                  replace p165 := eq_true p165
                                                  replace q165 := eq_true q165
                                                  have p166 : 0 ≤ (x30_2 : Int) := of_decide_eq_true (by first | (with_reducible assumption) | assumption)
                                                  have q166 : x30_2 < (l1.length : Int) := of_decide_eq_true (by first | (with_reducible assumption) | assumption)
                                                  obtain ⟨ad166, A166_2, c166_2, e166, hx166_0, hx166_1, hx166_2, hx166_3, hl166_2, hi166_2⟩ := at_T70 HR1.out x30_2 p166 q166
                                                  obtain rfl : ad164 = ad166 := (by injection e166)
                                                  have hn166_0 : ad164.block ≠ gb163 := Nat.ne_of_lt (Nat.lt_of_lt_of_le (by have := World.block_lt_of_cell? _ _ hx166_0; first | rwa [add_block] at this | exact this) GW163.out)
                                                  have hn166_1 : ad164.block ≠ gb163 := Nat.ne_of_lt (Nat.lt_of_lt_of_le (by have := World.block_lt_of_cell? _ _ hx166_0; first | rwa [add_block] at this | exact this) GW163.out)
                                                  have hn166_2 : ad164.block ≠ gb163 := Nat.ne_of_lt (Nat.lt_of_lt_of_le (by have := World.block_lt_of_cell? _ _ hx166_0; first | rwa [add_block] at this | exact this) GW163.out)
                                                  have hn166_3 : ad164.block ≠ gb163 := Nat.ne_of_lt (Nat.lt_of_lt_of_le (by have := World.block_lt_of_cell? _ _ hx166_0; first | rwa [add_block] at this | exact this) GW163.out)
                                                  have hn166_4 : ad164.block ≠ gb163 := Nat.ne_of_lt (Nat.lt_of_lt_of_le (by have := World.block_lt_of_cell? _ _ hx166_0; first | rwa [add_block] at this | exact this) GW163.out)
                                                  replace hx166_0 := (HB.out.cell (World.block_lt_of_cell? w _ hx166_0)).trans hx166_0
                                                  replace hx166_1 := (HB.out.cell (World.block_lt_of_cell? w _ hx166_1)).trans hx166_1
                                                  replace hx166_2 := (HB.out.cell (World.block_lt_of_cell? w _ hx166_2)).trans hx166_2
                                                  replace hx166_3 := (HB.out.cell (World.block_lt_of_cell? w _ hx166_3)).trans hx166_3
                                                  have HR166_2 := Aside0.mk hi166_2
                                                  have HC166_2 := Aside0.mk hl166_2
                                                  clear hi166_2 hl166_2
                                                  replace hx166_0 := (cell_far (p := ⟨gb163, 0, none⟩) (by first | (rw [add_block]; exact hn166_0) | (show (Addr.add _ _).block ≠ _; rw [add_block]; exact hn166_0) | exact hn166_0) (.int .i64 ((rd_T71 l0 x37_3).f0))).trans hx166_0
                                                  replace hx166_1 := (cell_far (p := ⟨gb163, 0, none⟩) (by first | (rw [add_block]; exact hn166_0) | (show (Addr.add _ _).block ≠ _; rw [add_block]; exact hn166_0) | exact hn166_0) (.int .i64 ((rd_T71 l0 x37_3).f0))).trans hx166_1
                                                  replace hx166_2 := (cell_far (p := ⟨gb163, 0, none⟩) (by first | (rw [add_block]; exact hn166_0) | (show (Addr.add _ _).block ≠ _; rw [add_block]; exact hn166_0) | exact hn166_0) (.int .i64 ((rd_T71 l0 x37_3).f0))).trans hx166_2
                                                  replace hx166_3 := (cell_far (p := ⟨gb163, 0, none⟩) (by first | (rw [add_block]; exact hn166_0) | (show (Addr.add _ _).block ≠ _; rw [add_block]; exact hn166_0) | exact hn166_0) (.int .i64 ((rd_T71 l0 x37_3).f0))).trans hx166_3
                                                  replace hx166_0 := (cell_far (p := ⟨gb163, 1, none⟩) (by first | (rw [add_block]; exact hn166_1) | (show (Addr.add _ _).block ≠ _; rw [add_block]; exact hn166_1) | exact hn166_1) (.int .i64 ((rd_T71 l0 x37_3).f1))).trans hx166_0
                                                  replace hx166_1 := (cell_far (p := ⟨gb163, 1, none⟩) (by first | (rw [add_block]; exact hn166_1) | (show (Addr.add _ _).block ≠ _; rw [add_block]; exact hn166_1) | exact hn166_1) (.int .i64 ((rd_T71 l0 x37_3).f1))).trans hx166_1
                                                  replace hx166_2 := (cell_far (p := ⟨gb163, 1, none⟩) (by first | (rw [add_block]; exact hn166_1) | (show (Addr.add _ _).block ≠ _; rw [add_block]; exact hn166_1) | exact hn166_1) (.int .i64 ((rd_T71 l0 x37_3).f1))).trans hx166_2
                                                  replace hx166_3 := (cell_far (p := ⟨gb163, 1, none⟩) (by first | (rw [add_block]; exact hn166_1) | (show (Addr.add _ _).block ≠ _; rw [add_block]; exact hn166_1) | exact hn166_1) (.int .i64 ((rd_T71 l0 x37_3).f1))).trans hx166_3
                                                  replace hx166_0 := (cell_far (p := ⟨gb163, 2, none⟩) (by first | (rw [add_block]; exact hn166_2) | (show (Addr.add _ _).block ≠ _; rw [add_block]; exact hn166_2) | exact hn166_2) (.slice A162_2 ((rd_T71 l0 x37_3).f2).length c162_2)).trans hx166_0
                                                  replace hx166_1 := (cell_far (p := ⟨gb163, 2, none⟩) (by first | (rw [add_block]; exact hn166_2) | (show (Addr.add _ _).block ≠ _; rw [add_block]; exact hn166_2) | exact hn166_2) (.slice A162_2 ((rd_T71 l0 x37_3).f2).length c162_2)).trans hx166_1
                                                  replace hx166_2 := (cell_far (p := ⟨gb163, 2, none⟩) (by first | (rw [add_block]; exact hn166_2) | (show (Addr.add _ _).block ≠ _; rw [add_block]; exact hn166_2) | exact hn166_2) (.slice A162_2 ((rd_T71 l0 x37_3).f2).length c162_2)).trans hx166_2
                                                  replace hx166_3 := (cell_far (p := ⟨gb163, 2, none⟩) (by first | (rw [add_block]; exact hn166_2) | (show (Addr.add _ _).block ≠ _; rw [add_block]; exact hn166_2) | exact hn166_2) (.slice A162_2 ((rd_T71 l0 x37_3).f2).length c162_2)).trans hx166_3
                                                  replace hx166_0 := (cell_far (p := ⟨gb163, 3, none⟩) (by first | (rw [add_block]; exact hn166_3) | (show (Addr.add _ _).block ≠ _; rw [add_block]; exact hn166_3) | exact hn166_3) (.int .i64 ((rd_T71 l0 x37_3).f3))).trans hx166_0
                                                  replace hx166_1 := (cell_far (p := ⟨gb163, 3, none⟩) (by first | (rw [add_block]; exact hn166_3) | (show (Addr.add _ _).block ≠ _; rw [add_block]; exact hn166_3) | exact hn166_3) (.int .i64 ((rd_T71 l0 x37_3).f3))).trans hx166_1
                                                  replace hx166_2 := (cell_far (p := ⟨gb163, 3, none⟩) (by first | (rw [add_block]; exact hn166_3) | (show (Addr.add _ _).block ≠ _; rw [add_block]; exact hn166_3) | exact hn166_3) (.int .i64 ((rd_T71 l0 x37_3).f3))).trans hx166_2
                                                  replace hx166_3 := (cell_far (p := ⟨gb163, 3, none⟩) (by first | (rw [add_block]; exact hn166_3) | (show (Addr.add _ _).block ≠ _; rw [add_block]; exact hn166_3) | exact hn166_3) (.int .i64 ((rd_T71 l0 x37_3).f3))).trans hx166_3
                                                  replace hx166_0 := (cell_far (p := ⟨gb163, 4, none⟩) (by first | (rw [add_block]; exact hn166_4) | (show (Addr.add _ _).block ≠ _; rw [add_block]; exact hn166_4) | exact hn166_4) (.int .i64 ((rd_T71 l0 x37_3).f4))).trans hx166_0
                                                  replace hx166_1 := (cell_far (p := ⟨gb163, 4, none⟩) (by first | (rw [add_block]; exact hn166_4) | (show (Addr.add _ _).block ≠ _; rw [add_block]; exact hn166_4) | exact hn166_4) (.int .i64 ((rd_T71 l0 x37_3).f4))).trans hx166_1
                                                  replace hx166_2 := (cell_far (p := ⟨gb163, 4, none⟩) (by first | (rw [add_block]; exact hn166_4) | (show (Addr.add _ _).block ≠ _; rw [add_block]; exact hn166_4) | exact hn166_4) (.int .i64 ((rd_T71 l0 x37_3).f4))).trans hx166_2
                                                  replace hx166_3 := (cell_far (p := ⟨gb163, 4, none⟩) (by first | (rw [add_block]; exact hn166_4) | (show (Addr.add _ _).block ≠ _; rw [add_block]; exact hn166_4) | exact hn166_4) (.int .i64 ((rd_T71 l0 x37_3).f4))).trans hx166_3
                                                  (try have hy166_0 := fun (n_ : Nat) => (show (((((((w21.drewN n_).setCell ⟨gb163, 0, none⟩ (.int .i64 ((rd_T71 l0 x37_3).f0))).setCell ⟨gb163, 1, none⟩ (.int .i64 ((rd_T71 l0 x37_3).f1))).setCell ⟨gb163, 2, none⟩ (.slice A162_2 ((rd_T71 l0 x37_3).f2).length c162_2)).setCell ⟨gb163, 3, none⟩ (.int .i64 ((rd_T71 l0 x37_3).f3))).setCell ⟨gb163, 4, none⟩ (.int .i64 ((rd_T71 l0 x37_3).f4)))).cell? _ = some _ from hx166_0))
                                                  (try have hy166_1 := fun (n_ : Nat) => (show (((((((w21.drewN n_).setCell ⟨gb163, 0, none⟩ (.int .i64 ((rd_T71 l0 x37_3).f0))).setCell ⟨gb163, 1, none⟩ (.int .i64 ((rd_T71 l0 x37_3).f1))).setCell ⟨gb163, 2, none⟩ (.slice A162_2 ((rd_T71 l0 x37_3).f2).length c162_2)).setCell ⟨gb163, 3, none⟩ (.int .i64 ((rd_T71 l0 x37_3).f3))).setCell ⟨gb163, 4, none⟩ (.int .i64 ((rd_T71 l0 x37_3).f4)))).cell? _ = some _ from hx166_1))
                                                  (try have hy166_2 := fun (n_ : Nat) => (show (((((((w21.drewN n_).setCell ⟨gb163, 0, none⟩ (.int .i64 ((rd_T71 l0 x37_3).f0))).setCell ⟨gb163, 1, none⟩ (.int .i64 ((rd_T71 l0 x37_3).f1))).setCell ⟨gb163, 2, none⟩ (.slice A162_2 ((rd_T71 l0 x37_3).f2).length c162_2)).setCell ⟨gb163, 3, none⟩ (.int .i64 ((rd_T71 l0 x37_3).f3))).setCell ⟨gb163, 4, none⟩ (.int .i64 ((rd_T71 l0 x37_3).f4)))).cell? _ = some _ from hx166_2))
                                                  (try have hy166_3 := fun (n_ : Nat) => (show (((((((w21.drewN n_).setCell ⟨gb163, 0, none⟩ (.int .i64 ((rd_T71 l0 x37_3).f0))).setCell ⟨gb163, 1, none⟩ (.int .i64 ((rd_T71 l0 x37_3).f1))).setCell ⟨gb163, 2, none⟩ (.slice A162_2 ((rd_T71 l0 x37_3).f2).length c162_2)).setCell ⟨gb163, 3, none⟩ (.int .i64 ((rd_T71 l0 x37_3).f3))).setCell ⟨gb163, 4, none⟩ (.int .i64 ((rd_T71 l0 x37_3).f4)))).cell? _ = some _ from hx166_3))
                                                  clear hn166_0
                                                  clear hn166_1
                                                  clear hn166_2
                                                  clear hn166_3
                                                  clear hn166_4
                                                  replace p166 := eq_true p166
                                                  replace q166 := eq_true q166
                                                  have p167 : 0 ≤ (x37_3 : Int) := of_decide_eq_true (by first | (with_reducible assumption) | assumption)
                                                  have q167 : x37_3 < (l1.length : Int) := of_decide_eq_true (by first | (with_reducible assumption) | assumption)
                                                  obtain ⟨ad167, A167_2, c167_2, e167, hx167_0, hx167_1, hx167_2, hx167_3, hl167_2, hi167_2⟩ := at_T70 HR1.out x37_3 p167 q167
                                                  obtain rfl : ad164 = ad167 := (by injection e167)
                                                  have hn167_0 : ad164.block ≠ gb163 := Nat.ne_of_lt (Nat.lt_of_lt_of_le (by have := World.block_lt_of_cell? _ _ hx167_0; first | rwa [add_block] at this | exact this) GW163.out)
                                                  have hn167_1 : ad164.block ≠ gb163 := Nat.ne_of_lt (Nat.lt_of_lt_of_le (by have := World.block_lt_of_cell? _ _ hx167_0; first | rwa [add_block] at this | exact this) GW163.out)
                                                  have hn167_2 : ad164.block ≠ gb163 := Nat.ne_of_lt (Nat.lt_of_lt_of_le (by have := World.block_lt_of_cell? _ _ hx167_0; first | rwa [add_block] at this | exact this) GW163.out)
                                                  have hn167_3 : ad164.block ≠ gb163 := Nat.ne_of_lt (Nat.lt_of_lt_of_le (by have := World.block_lt_of_cell? _ _ hx167_0; first | rwa [add_block] at this | exact this) GW163.out)
                                                  have hn167_4 : ad164.block ≠ gb163 := Nat.ne_of_lt (Nat.lt_of_lt_of_le (by have := World.block_lt_of_cell? _ _ hx167_0; first | rwa [add_block] at this | exact this) GW163.out)
                                                  replace hx167_0 := (HB.out.cell (World.block_lt_of_cell? w _ hx167_0)).trans hx167_0
                                                  replace hx167_1 := (HB.out.cell (World.block_lt_of_cell? w _ hx167_1)).trans hx167_1
                                                  replace hx167_2 := (HB.out.cell (World.block_lt_of_cell? w _ hx167_2)).trans hx167_2
                                                  replace hx167_3 := (HB.out.cell (World.block_lt_of_cell? w _ hx167_3)).trans hx167_3
                                                  have HR167_2 := Aside0.mk hi167_2
                                                  have HC167_2 := Aside0.mk hl167_2
                                                  clear hi167_2 hl167_2
                                                  replace hx167_0 := (cell_far (p := ⟨gb163, 0, none⟩) (by first | (rw [add_block]; exact hn167_0) | (show (Addr.add _ _).block ≠ _; rw [add_block]; exact hn167_0) | exact hn167_0) (.int .i64 ((rd_T71 l0 x37_3).f0))).trans hx167_0
                                                  replace hx167_1 := (cell_far (p := ⟨gb163, 0, none⟩) (by first | (rw [add_block]; exact hn167_0) | (show (Addr.add _ _).block ≠ _; rw [add_block]; exact hn167_0) | exact hn167_0) (.int .i64 ((rd_T71 l0 x37_3).f0))).trans hx167_1
                                                  replace hx167_2 := (cell_far (p := ⟨gb163, 0, none⟩) (by first | (rw [add_block]; exact hn167_0) | (show (Addr.add _ _).block ≠ _; rw [add_block]; exact hn167_0) | exact hn167_0) (.int .i64 ((rd_T71 l0 x37_3).f0))).trans hx167_2
                                                  replace hx167_3 := (cell_far (p := ⟨gb163, 0, none⟩) (by first | (rw [add_block]; exact hn167_0) | (show (Addr.add _ _).block ≠ _; rw [add_block]; exact hn167_0) | exact hn167_0) (.int .i64 ((rd_T71 l0 x37_3).f0))).trans hx167_3
                                                  replace hx167_0 := (cell_far (p := ⟨gb163, 1, none⟩) (by first | (rw [add_block]; exact hn167_1) | (show (Addr.add _ _).block ≠ _; rw [add_block]; exact hn167_1) | exact hn167_1) (.int .i64 ((rd_T71 l0 x37_3).f1))).trans hx167_0
                                                  replace hx167_1 := (cell_far (p := ⟨gb163, 1, none⟩) (by first | (rw [add_block]; exact hn167_1) | (show (Addr.add _ _).block ≠ _; rw [add_block]; exact hn167_1) | exact hn167_1) (.int .i64 ((rd_T71 l0 x37_3).f1))).trans hx167_1
                                                  replace hx167_2 := (cell_far (p := ⟨gb163, 1, none⟩) (by first | (rw [add_block]; exact hn167_1) | (show (Addr.add _ _).block ≠ _; rw [add_block]; exact hn167_1) | exact hn167_1) (.int .i64 ((rd_T71 l0 x37_3).f1))).trans hx167_2
                                                  replace hx167_3 := (cell_far (p := ⟨gb163, 1, none⟩) (by first | (rw [add_block]; exact hn167_1) | (show (Addr.add _ _).block ≠ _; rw [add_block]; exact hn167_1) | exact hn167_1) (.int .i64 ((rd_T71 l0 x37_3).f1))).trans hx167_3
                                                  replace hx167_0 := (cell_far (p := ⟨gb163, 2, none⟩) (by first | (rw [add_block]; exact hn167_2) | (show (Addr.add _ _).block ≠ _; rw [add_block]; exact hn167_2) | exact hn167_2) (.slice A162_2 ((rd_T71 l0 x37_3).f2).length c162_2)).trans hx167_0
                                                  replace hx167_1 := (cell_far (p := ⟨gb163, 2, none⟩) (by first | (rw [add_block]; exact hn167_2) | (show (Addr.add _ _).block ≠ _; rw [add_block]; exact hn167_2) | exact hn167_2) (.slice A162_2 ((rd_T71 l0 x37_3).f2).length c162_2)).trans hx167_1
                                                  replace hx167_2 := (cell_far (p := ⟨gb163, 2, none⟩) (by first | (rw [add_block]; exact hn167_2) | (show (Addr.add _ _).block ≠ _; rw [add_block]; exact hn167_2) | exact hn167_2) (.slice A162_2 ((rd_T71 l0 x37_3).f2).length c162_2)).trans hx167_2
                                                  replace hx167_3 := (cell_far (p := ⟨gb163, 2, none⟩) (by first | (rw [add_block]; exact hn167_2) | (show (Addr.add _ _).block ≠ _; rw [add_block]; exact hn167_2) | exact hn167_2) (.slice A162_2 ((rd_T71 l0 x37_3).f2).length c162_2)).trans hx167_3
                                                  replace hx167_0 := (cell_far (p := ⟨gb163, 3, none⟩) (by first | (rw [add_block]; exact hn167_3) | (show (Addr.add _ _).block ≠ _; rw [add_block]; exact hn167_3) | exact hn167_3) (.int .i64 ((rd_T71 l0 x37_3).f3))).trans hx167_0
                                                  replace hx167_1 := (cell_far (p := ⟨gb163, 3, none⟩) (by first | (rw [add_block]; exact hn167_3) | (show (Addr.add _ _).block ≠ _; rw [add_block]; exact hn167_3) | exact hn167_3) (.int .i64 ((rd_T71 l0 x37_3).f3))).trans hx167_1
                                                  replace hx167_2 := (cell_far (p := ⟨gb163, 3, none⟩) (by first | (rw [add_block]; exact hn167_3) | (show (Addr.add _ _).block ≠ _; rw [add_block]; exact hn167_3) | exact hn167_3) (.int .i64 ((rd_T71 l0 x37_3).f3))).trans hx167_2
                                                  replace hx167_3 := (cell_far (p := ⟨gb163, 3, none⟩) (by first | (rw [add_block]; exact hn167_3) | (show (Addr.add _ _).block ≠ _; rw [add_block]; exact hn167_3) | exact hn167_3) (.int .i64 ((rd_T71 l0 x37_3).f3))).trans hx167_3
                                                  replace hx167_0 := (cell_far (p := ⟨gb163, 4, none⟩) (by first | (rw [add_block]; exact hn167_4) | (show (Addr.add _ _).block ≠ _; rw [add_block]; exact hn167_4) | exact hn167_4) (.int .i64 ((rd_T71 l0 x37_3).f4))).trans hx167_0
                                                  replace hx167_1 := (cell_far (p := ⟨gb163, 4, none⟩) (by first | (rw [add_block]; exact hn167_4) | (show (Addr.add _ _).block ≠ _; rw [add_block]; exact hn167_4) | exact hn167_4) (.int .i64 ((rd_T71 l0 x37_3).f4))).trans hx167_1
                                                  replace hx167_2 := (cell_far (p := ⟨gb163, 4, none⟩) (by first | (rw [add_block]; exact hn167_4) | (show (Addr.add _ _).block ≠ _; rw [add_block]; exact hn167_4) | exact hn167_4) (.int .i64 ((rd_T71 l0 x37_3).f4))).trans hx167_2
                                                  replace hx167_3 := (cell_far (p := ⟨gb163, 4, none⟩) (by first | (rw [add_block]; exact hn167_4) | (show (Addr.add _ _).block ≠ _; rw [add_block]; exact hn167_4) | exact hn167_4) (.int .i64 ((rd_T71 l0 x37_3).f4))).trans hx167_3
                                                  (try have hy167_0 := fun (n_ : Nat) => (show (((((((w21.drewN n_).setCell ⟨gb163, 0, none⟩ (.int .i64 ((rd_T71 l0 x37_3).f0))).setCell ⟨gb163, 1, none⟩ (.int .i64 ((rd_T71 l0 x37_3).f1))).setCell ⟨gb163, 2, none⟩ (.slice A162_2 ((rd_T71 l0 x37_3).f2).length c162_2)).setCell ⟨gb163, 3, none⟩ (.int .i64 ((rd_T71 l0 x37_3).f3))).setCell ⟨gb163, 4, none⟩ (.int .i64 ((rd_T71 l0 x37_3).f4)))).cell? _ = some _ from hx167_0))
                                                  (try have hy167_1 := fun (n_ : Nat) => (show (((((((w21.drewN n_).setCell ⟨gb163, 0, none⟩ (.int .i64 ((rd_T71 l0 x37_3).f0))).setCell ⟨gb163, 1, none⟩ (.int .i64 ((rd_T71 l0 x37_3).f1))).setCell ⟨gb163, 2, none⟩ (.slice A162_2 ((rd_T71 l0 x37_3).f2).length c162_2)).setCell ⟨gb163, 3, none⟩ (.int .i64 ((rd_T71 l0 x37_3).f3))).setCell ⟨gb163, 4, none⟩ (.int .i64 ((rd_T71 l0 x37_3).f4)))).cell? _ = some _ from hx167_1))
                                                  (try have hy167_2 := fun (n_ : Nat) => (show (((((((w21.drewN n_).setCell ⟨gb163, 0, none⟩ (.int .i64 ((rd_T71 l0 x37_3).f0))).setCell ⟨gb163, 1, none⟩ (.int .i64 ((rd_T71 l0 x37_3).f1))).setCell ⟨gb163, 2, none⟩ (.slice A162_2 ((rd_T71 l0 x37_3).f2).length c162_2)).setCell ⟨gb163, 3, none⟩ (.int .i64 ((rd_T71 l0 x37_3).f3))).setCell ⟨gb163, 4, none⟩ (.int .i64 ((rd_T71 l0 x37_3).f4)))).cell? _ = some _ from hx167_2))
                                                  (try have hy167_3 := fun (n_ : Nat) => (show (((((((w21.drewN n_).setCell ⟨gb163, 0, none⟩ (.int .i64 ((rd_T71 l0 x37_3).f0))).setCell ⟨gb163, 1, none⟩ (.int .i64 ((rd_T71 l0 x37_3).f1))).setCell ⟨gb163, 2, none⟩ (.slice A162_2 ((rd_T71 l0 x37_3).f2).length c162_2)).setCell ⟨gb163, 3, none⟩ (.int .i64 ((rd_T71 l0 x37_3).f3))).setCell ⟨gb163, 4, none⟩ (.int .i64 ((rd_T71 l0 x37_3).f4)))).cell? _ = some _ from hx167_3))
                                                  clear hn167_0
                                                  clear hn167_1
                                                  clear hn167_2
                                                  clear hn167_3
                                                  clear hn167_4
                                                  replace p167 := eq_true p167
                                                  replace q167 := eq_true q167
                                                  go_wp2
                                                  repeat (go_quiet (fail); try go_wp2)
                                                  go_meet
                                                  case rel => exact ⟨_, (decide (((rd_T70 l1 x30_2).f1) > ((rd_T70 l1 x37_3).f1))), (by first | rfl | (simp; done) | (simp [*]; done)), H', ⟨by have := HK1.out; have := HK2.out; have := HK3.out; first | omega | exact Nat.le_refl _⟩, ⟨by (with_reducible repeat (first | refine blk_drewN ?_ _ | refine blk_drew ?_ | refine blk_alloc ?_ _)); refine blk_far ?_ NB161_163.out _; (with_reducible repeat (first | refine blk_drewN ?_ _ | refine blk_drew ?_ | refine blk_alloc ?_ _)); refine blk_far ?_ NB161_163.out _; (with_reducible repeat (first | refine blk_drewN ?_ _ | refine blk_drew ?_ | refine blk_alloc ?_ _)); refine blk_far ?_ NB161_163.out _; (with_reducible repeat (first | refine blk_drewN ?_ _ | refine blk_drew ?_ | refine blk_alloc ?_ _)); refine blk_far ?_ NB161_163.out _; (with_reducible repeat (first | refine blk_drewN ?_ _ | refine blk_drew ?_ | refine blk_alloc ?_ _)); refine blk_far ?_ NB161_163.out _; (with_reducible repeat (first | refine blk_drewN ?_ _ | refine blk_drew ?_ | refine blk_alloc ?_ _)); exact BK161.out⟩, ⟨by (with_reducible repeat (first | refine blk_drewN ?_ _ | refine blk_drew ?_ | refine blk_alloc ?_ _)); refine blk_put (cs := #[.int .i64 ((rd_T71 l0 x37_3).f0), .int .i64 ((rd_T71 l0 x37_3).f1), .slice A162_2 ((rd_T71 l0 x37_3).f2).length c162_2, .int .i64 ((rd_T71 l0 x37_3).f3), .int .i64 0]) ?_ 4 _ rfl; (with_reducible repeat (first | refine blk_drewN ?_ _ | refine blk_drew ?_ | refine blk_alloc ?_ _)); refine blk_put (cs := #[.int .i64 ((rd_T71 l0 x37_3).f0), .int .i64 ((rd_T71 l0 x37_3).f1), .slice A162_2 ((rd_T71 l0 x37_3).f2).length c162_2, .int .i64 0, .int .i64 0]) ?_ 3 _ rfl; (with_reducible repeat (first | refine blk_drewN ?_ _ | refine blk_drew ?_ | refine blk_alloc ?_ _)); refine blk_put (cs := #[.int .i64 ((rd_T71 l0 x37_3).f0), .int .i64 ((rd_T71 l0 x37_3).f1), .slice none 0 0, .int .i64 0, .int .i64 0]) ?_ 2 _ rfl; (with_reducible repeat (first | refine blk_drewN ?_ _ | refine blk_drew ?_ | refine blk_alloc ?_ _)); refine blk_put (cs := #[.int .i64 ((rd_T71 l0 x37_3).f0), .int .i64 0, .slice none 0 0, .int .i64 0, .int .i64 0]) ?_ 1 _ rfl; (with_reducible repeat (first | refine blk_drewN ?_ _ | refine blk_drew ?_ | refine blk_alloc ?_ _)); refine blk_put (cs := #[.int .i64 0, .int .i64 0, .slice none 0 0, .int .i64 0, .int .i64 0]) ?_ 0 _ rfl; (with_reducible repeat (first | refine blk_drewN ?_ _ | refine blk_drew ?_ | refine blk_alloc ?_ _)); exact BK163.out⟩, ⟨by repeat (first | (with_reducible first | exact HB.out | apply below_alloc | apply pw_below_drewN | apply below_drew1 | refine below_set ?_ GE161.out | refine below_set ?_ GE163.out) | exact HB.out)⟩⟩
                                                · rw [if_neg c32] at H
                                                  have c32b0 : decide (((rd_T71 l0 x37_3).f1) < ((rd_T71 l0 x30_2).f1)) = false := decide_eq_false c32
                                                  clear c32
                                                  have H' := Aside0.mk H
                                                  clear H
                                                  have hnb36 := NB161_163.out
                                                  have hnc36 := NB163_161.out
                                                  have hcz37_0 : w21.cell? ⟨gb161, 0, none⟩ = some (.int .i64 ((rd_T71 l0 x30_2).f0)) := (blk_cell BK161.out 0).trans rfl
                                                  have hcz37_1 : w21.cell? ⟨gb161, 1, none⟩ = some (.int .i64 ((rd_T71 l0 x30_2).f1)) := (blk_cell BK161.out 1).trans rfl
                                                  have hcz37_2 : w21.cell? ⟨gb161, 2, none⟩ = some (.slice A160_2 ((rd_T71 l0 x30_2).f2).length c160_2) := (blk_cell BK161.out 2).trans rfl
                                                  have hcz37_3 : w21.cell? ⟨gb161, 3, none⟩ = some (.int .i64 ((rd_T71 l0 x30_2).f3)) := (blk_cell BK161.out 3).trans rfl
                                                  have hcz37_4 : w21.cell? ⟨gb161, 4, none⟩ = some (.int .i64 ((rd_T71 l0 x30_2).f4)) := (blk_cell BK161.out 4).trans rfl
                                                  have hfz37_0 := blk_frozen BK161.out 0
                                                  have hfz37_1 := blk_frozen BK161.out 1
                                                  have hfz37_2 := blk_frozen BK161.out 2
                                                  have hfz37_3 := blk_frozen BK161.out 3
                                                  have hfz37_4 := blk_frozen BK161.out 4
                                                  have hcz38_0 : w21.cell? ⟨gb163, 0, none⟩ = some (.int .i64 0) := (blk_cell BK163.out 0).trans rfl
                                                  have hcz38_1 : w21.cell? ⟨gb163, 1, none⟩ = some (.int .i64 0) := (blk_cell BK163.out 1).trans rfl
                                                  have hcz38_2 : w21.cell? ⟨gb163, 2, none⟩ = some (.slice none 0 0) := (blk_cell BK163.out 2).trans rfl
                                                  have hcz38_3 : w21.cell? ⟨gb163, 3, none⟩ = some (.int .i64 0) := (blk_cell BK163.out 3).trans rfl
                                                  have hcz38_4 : w21.cell? ⟨gb163, 4, none⟩ = some (.int .i64 0) := (blk_cell BK163.out 4).trans rfl
                                                  have hfz38_0 := blk_frozen BK163.out 0
                                                  have hfz38_1 := blk_frozen BK163.out 1
                                                  have hfz38_2 := blk_frozen BK163.out 2
                                                  have hfz38_3 := blk_frozen BK163.out 3
                                                  have hfz38_4 := blk_frozen BK163.out 4
                                                  have p164 : 0 ≤ (x30_2 : Int) := of_decide_eq_true (by first | (with_reducible assumption) | assumption)
                                                  have q164 : x30_2 < (l1.length : Int) := of_decide_eq_true (by first | (with_reducible assumption) | assumption)
                                                  obtain ⟨ad164, A164_2, c164_2, e164, hx164_0, hx164_1, hx164_2, hx164_3, hl164_2, hi164_2⟩ := at_T70 HR1.out x30_2 p164 q164
                                                  cases e164
                                                  have hn164_0 : ad164.block ≠ gb163 := Nat.ne_of_lt (Nat.lt_of_lt_of_le (by have := World.block_lt_of_cell? _ _ hx164_0; first | rwa [add_block] at this | exact this) GW163.out)
                                                  have hn164_1 : ad164.block ≠ gb163 := Nat.ne_of_lt (Nat.lt_of_lt_of_le (by have := World.block_lt_of_cell? _ _ hx164_0; first | rwa [add_block] at this | exact this) GW163.out)
                                                  have hn164_2 : ad164.block ≠ gb163 := Nat.ne_of_lt (Nat.lt_of_lt_of_le (by have := World.block_lt_of_cell? _ _ hx164_0; first | rwa [add_block] at this | exact this) GW163.out)
                                                  have hn164_3 : ad164.block ≠ gb163 := Nat.ne_of_lt (Nat.lt_of_lt_of_le (by have := World.block_lt_of_cell? _ _ hx164_0; first | rwa [add_block] at this | exact this) GW163.out)
                                                  have hn164_4 : ad164.block ≠ gb163 := Nat.ne_of_lt (Nat.lt_of_lt_of_le (by have := World.block_lt_of_cell? _ _ hx164_0; first | rwa [add_block] at this | exact this) GW163.out)
                                                  replace hx164_0 := (HB.out.cell (World.block_lt_of_cell? w _ hx164_0)).trans hx164_0
                                                  replace hx164_1 := (HB.out.cell (World.block_lt_of_cell? w _ hx164_1)).trans hx164_1
                                                  replace hx164_2 := (HB.out.cell (World.block_lt_of_cell? w _ hx164_2)).trans hx164_2
                                                  replace hx164_3 := (HB.out.cell (World.block_lt_of_cell? w _ hx164_3)).trans hx164_3
                                                  have HR164_2 := Aside0.mk hi164_2
                                                  have HC164_2 := Aside0.mk hl164_2
                                                  clear hi164_2 hl164_2
                                                  replace hx164_0 := (cell_far (p := ⟨gb163, 0, none⟩) (by first | (rw [add_block]; exact hn164_0) | (show (Addr.add _ _).block ≠ _; rw [add_block]; exact hn164_0) | exact hn164_0) (.int .i64 ((rd_T71 l0 x37_3).f0))).trans hx164_0
                                                  replace hx164_1 := (cell_far (p := ⟨gb163, 0, none⟩) (by first | (rw [add_block]; exact hn164_0) | (show (Addr.add _ _).block ≠ _; rw [add_block]; exact hn164_0) | exact hn164_0) (.int .i64 ((rd_T71 l0 x37_3).f0))).trans hx164_1
                                                  replace hx164_2 := (cell_far (p := ⟨gb163, 0, none⟩) (by first | (rw [add_block]; exact hn164_0) | (show (Addr.add _ _).block ≠ _; rw [add_block]; exact hn164_0) | exact hn164_0) (.int .i64 ((rd_T71 l0 x37_3).f0))).trans hx164_2
                                                  replace hx164_3 := (cell_far (p := ⟨gb163, 0, none⟩) (by first | (rw [add_block]; exact hn164_0) | (show (Addr.add _ _).block ≠ _; rw [add_block]; exact hn164_0) | exact hn164_0) (.int .i64 ((rd_T71 l0 x37_3).f0))).trans hx164_3
                                                  replace hx164_0 := (cell_far (p := ⟨gb163, 1, none⟩) (by first | (rw [add_block]; exact hn164_1) | (show (Addr.add _ _).block ≠ _; rw [add_block]; exact hn164_1) | exact hn164_1) (.int .i64 ((rd_T71 l0 x37_3).f1))).trans hx164_0
                                                  replace hx164_1 := (cell_far (p := ⟨gb163, 1, none⟩) (by first | (rw [add_block]; exact hn164_1) | (show (Addr.add _ _).block ≠ _; rw [add_block]; exact hn164_1) | exact hn164_1) (.int .i64 ((rd_T71 l0 x37_3).f1))).trans hx164_1
                                                  replace hx164_2 := (cell_far (p := ⟨gb163, 1, none⟩) (by first | (rw [add_block]; exact hn164_1) | (show (Addr.add _ _).block ≠ _; rw [add_block]; exact hn164_1) | exact hn164_1) (.int .i64 ((rd_T71 l0 x37_3).f1))).trans hx164_2
                                                  replace hx164_3 := (cell_far (p := ⟨gb163, 1, none⟩) (by first | (rw [add_block]; exact hn164_1) | (show (Addr.add _ _).block ≠ _; rw [add_block]; exact hn164_1) | exact hn164_1) (.int .i64 ((rd_T71 l0 x37_3).f1))).trans hx164_3
                                                  replace hx164_0 := (cell_far (p := ⟨gb163, 2, none⟩) (by first | (rw [add_block]; exact hn164_2) | (show (Addr.add _ _).block ≠ _; rw [add_block]; exact hn164_2) | exact hn164_2) (.slice A162_2 ((rd_T71 l0 x37_3).f2).length c162_2)).trans hx164_0
                                                  replace hx164_1 := (cell_far (p := ⟨gb163, 2, none⟩) (by first | (rw [add_block]; exact hn164_2) | (show (Addr.add _ _).block ≠ _; rw [add_block]; exact hn164_2) | exact hn164_2) (.slice A162_2 ((rd_T71 l0 x37_3).f2).length c162_2)).trans hx164_1
                                                  replace hx164_2 := (cell_far (p := ⟨gb163, 2, none⟩) (by first | (rw [add_block]; exact hn164_2) | (show (Addr.add _ _).block ≠ _; rw [add_block]; exact hn164_2) | exact hn164_2) (.slice A162_2 ((rd_T71 l0 x37_3).f2).length c162_2)).trans hx164_2
                                                  replace hx164_3 := (cell_far (p := ⟨gb163, 2, none⟩) (by first | (rw [add_block]; exact hn164_2) | (show (Addr.add _ _).block ≠ _; rw [add_block]; exact hn164_2) | exact hn164_2) (.slice A162_2 ((rd_T71 l0 x37_3).f2).length c162_2)).trans hx164_3
                                                  replace hx164_0 := (cell_far (p := ⟨gb163, 3, none⟩) (by first | (rw [add_block]; exact hn164_3) | (show (Addr.add _ _).block ≠ _; rw [add_block]; exact hn164_3) | exact hn164_3) (.int .i64 ((rd_T71 l0 x37_3).f3))).trans hx164_0
                                                  replace hx164_1 := (cell_far (p := ⟨gb163, 3, none⟩) (by first | (rw [add_block]; exact hn164_3) | (show (Addr.add _ _).block ≠ _; rw [add_block]; exact hn164_3) | exact hn164_3) (.int .i64 ((rd_T71 l0 x37_3).f3))).trans hx164_1
                                                  replace hx164_2 := (cell_far (p := ⟨gb163, 3, none⟩) (by first | (rw [add_block]; exact hn164_3) | (show (Addr.add _ _).block ≠ _; rw [add_block]; exact hn164_3) | exact hn164_3) (.int .i64 ((rd_T71 l0 x37_3).f3))).trans hx164_2
                                                  replace hx164_3 := (cell_far (p := ⟨gb163, 3, none⟩) (by first | (rw [add_block]; exact hn164_3) | (show (Addr.add _ _).block ≠ _; rw [add_block]; exact hn164_3) | exact hn164_3) (.int .i64 ((rd_T71 l0 x37_3).f3))).trans hx164_3
                                                  replace hx164_0 := (cell_far (p := ⟨gb163, 4, none⟩) (by first | (rw [add_block]; exact hn164_4) | (show (Addr.add _ _).block ≠ _; rw [add_block]; exact hn164_4) | exact hn164_4) (.int .i64 ((rd_T71 l0 x37_3).f4))).trans hx164_0
                                                  replace hx164_1 := (cell_far (p := ⟨gb163, 4, none⟩) (by first | (rw [add_block]; exact hn164_4) | (show (Addr.add _ _).block ≠ _; rw [add_block]; exact hn164_4) | exact hn164_4) (.int .i64 ((rd_T71 l0 x37_3).f4))).trans hx164_1
                                                  replace hx164_2 := (cell_far (p := ⟨gb163, 4, none⟩) (by first | (rw [add_block]; exact hn164_4) | (show (Addr.add _ _).block ≠ _; rw [add_block]; exact hn164_4) | exact hn164_4) (.int .i64 ((rd_T71 l0 x37_3).f4))).trans hx164_2
                                                  replace hx164_3 := (cell_far (p := ⟨gb163, 4, none⟩) (by first | (rw [add_block]; exact hn164_4) | (show (Addr.add _ _).block ≠ _; rw [add_block]; exact hn164_4) | exact hn164_4) (.int .i64 ((rd_T71 l0 x37_3).f4))).trans hx164_3
                                                  (try have hy164_0 := fun (n_ : Nat) => (show (((((((w21.drewN n_).setCell ⟨gb163, 0, none⟩ (.int .i64 ((rd_T71 l0 x37_3).f0))).setCell ⟨gb163, 1, none⟩ (.int .i64 ((rd_T71 l0 x37_3).f1))).setCell ⟨gb163, 2, none⟩ (.slice A162_2 ((rd_T71 l0 x37_3).f2).length c162_2)).setCell ⟨gb163, 3, none⟩ (.int .i64 ((rd_T71 l0 x37_3).f3))).setCell ⟨gb163, 4, none⟩ (.int .i64 ((rd_T71 l0 x37_3).f4)))).cell? _ = some _ from hx164_0))
                                                  (try have hy164_1 := fun (n_ : Nat) => (show (((((((w21.drewN n_).setCell ⟨gb163, 0, none⟩ (.int .i64 ((rd_T71 l0 x37_3).f0))).setCell ⟨gb163, 1, none⟩ (.int .i64 ((rd_T71 l0 x37_3).f1))).setCell ⟨gb163, 2, none⟩ (.slice A162_2 ((rd_T71 l0 x37_3).f2).length c162_2)).setCell ⟨gb163, 3, none⟩ (.int .i64 ((rd_T71 l0 x37_3).f3))).setCell ⟨gb163, 4, none⟩ (.int .i64 ((rd_T71 l0 x37_3).f4)))).cell? _ = some _ from hx164_1))
                                                  (try have hy164_2 := fun (n_ : Nat) => (show (((((((w21.drewN n_).setCell ⟨gb163, 0, none⟩ (.int .i64 ((rd_T71 l0 x37_3).f0))).setCell ⟨gb163, 1, none⟩ (.int .i64 ((rd_T71 l0 x37_3).f1))).setCell ⟨gb163, 2, none⟩ (.slice A162_2 ((rd_T71 l0 x37_3).f2).length c162_2)).setCell ⟨gb163, 3, none⟩ (.int .i64 ((rd_T71 l0 x37_3).f3))).setCell ⟨gb163, 4, none⟩ (.int .i64 ((rd_T71 l0 x37_3).f4)))).cell? _ = some _ from hx164_2))
                                                  (try have hy164_3 := fun (n_ : Nat) => (show (((((((w21.drewN n_).setCell ⟨gb163, 0, none⟩ (.int .i64 ((rd_T71 l0 x37_3).f0))).setCell ⟨gb163, 1, none⟩ (.int .i64 ((rd_T71 l0 x37_3).f1))).setCell ⟨gb163, 2, none⟩ (.slice A162_2 ((rd_T71 l0 x37_3).f2).length c162_2)).setCell ⟨gb163, 3, none⟩ (.int .i64 ((rd_T71 l0 x37_3).f3))).setCell ⟨gb163, 4, none⟩ (.int .i64 ((rd_T71 l0 x37_3).f4)))).cell? _ = some _ from hx164_3))
                                                  clear hn164_0
                                                  clear hn164_1
                                                  clear hn164_2
                                                  clear hn164_3
                                                  clear hn164_4
                                                  replace p164 := eq_true p164
                                                  replace q164 := eq_true q164
                                                  have p165 : 0 ≤ (x37_3 : Int) := of_decide_eq_true (by first | (with_reducible assumption) | assumption)
                                                  have q165 : x37_3 < (l1.length : Int) := of_decide_eq_true (by first | (with_reducible assumption) | assumption)
                                                  obtain ⟨ad165, A165_2, c165_2, e165, hx165_0, hx165_1, hx165_2, hx165_3, hl165_2, hi165_2⟩ := at_T70 HR1.out x37_3 p165 q165
                                                  obtain rfl : ad164 = ad165 := (by injection e165)
                                                  have hn165_0 : ad164.block ≠ gb163 := Nat.ne_of_lt (Nat.lt_of_lt_of_le (by have := World.block_lt_of_cell? _ _ hx165_0; first | rwa [add_block] at this | exact this) GW163.out)
                                                  have hn165_1 : ad164.block ≠ gb163 := Nat.ne_of_lt (Nat.lt_of_lt_of_le (by have := World.block_lt_of_cell? _ _ hx165_0; first | rwa [add_block] at this | exact this) GW163.out)
                                                  have hn165_2 : ad164.block ≠ gb163 := Nat.ne_of_lt (Nat.lt_of_lt_of_le (by have := World.block_lt_of_cell? _ _ hx165_0; first | rwa [add_block] at this | exact this) GW163.out)
                                                  have hn165_3 : ad164.block ≠ gb163 := Nat.ne_of_lt (Nat.lt_of_lt_of_le (by have := World.block_lt_of_cell? _ _ hx165_0; first | rwa [add_block] at this | exact this) GW163.out)
                                                  have hn165_4 : ad164.block ≠ gb163 := Nat.ne_of_lt (Nat.lt_of_lt_of_le (by have := World.block_lt_of_cell? _ _ hx165_0; first | rwa [add_block] at this | exact this) GW163.out)
                                                  replace hx165_0 := (HB.out.cell (World.block_lt_of_cell? w _ hx165_0)).trans hx165_0
                                                  replace hx165_1 := (HB.out.cell (World.block_lt_of_cell? w _ hx165_1)).trans hx165_1
                                                  replace hx165_2 := (HB.out.cell (World.block_lt_of_cell? w _ hx165_2)).trans hx165_2
                                                  replace hx165_3 := (HB.out.cell (World.block_lt_of_cell? w _ hx165_3)).trans hx165_3
                                                  have HR165_2 := Aside0.mk hi165_2
                                                  have HC165_2 := Aside0.mk hl165_2
                                                  clear hi165_2 hl165_2
                                                  replace hx165_0 := (cell_far (p := ⟨gb163, 0, none⟩) (by first | (rw [add_block]; exact hn165_0) | (show (Addr.add _ _).block ≠ _; rw [add_block]; exact hn165_0) | exact hn165_0) (.int .i64 ((rd_T71 l0 x37_3).f0))).trans hx165_0
                                                  replace hx165_1 := (cell_far (p := ⟨gb163, 0, none⟩) (by first | (rw [add_block]; exact hn165_0) | (show (Addr.add _ _).block ≠ _; rw [add_block]; exact hn165_0) | exact hn165_0) (.int .i64 ((rd_T71 l0 x37_3).f0))).trans hx165_1
                                                  replace hx165_2 := (cell_far (p := ⟨gb163, 0, none⟩) (by first | (rw [add_block]; exact hn165_0) | (show (Addr.add _ _).block ≠ _; rw [add_block]; exact hn165_0) | exact hn165_0) (.int .i64 ((rd_T71 l0 x37_3).f0))).trans hx165_2
                                                  replace hx165_3 := (cell_far (p := ⟨gb163, 0, none⟩) (by first | (rw [add_block]; exact hn165_0) | (show (Addr.add _ _).block ≠ _; rw [add_block]; exact hn165_0) | exact hn165_0) (.int .i64 ((rd_T71 l0 x37_3).f0))).trans hx165_3
                                                  replace hx165_0 := (cell_far (p := ⟨gb163, 1, none⟩) (by first | (rw [add_block]; exact hn165_1) | (show (Addr.add _ _).block ≠ _; rw [add_block]; exact hn165_1) | exact hn165_1) (.int .i64 ((rd_T71 l0 x37_3).f1))).trans hx165_0
                                                  replace hx165_1 := (cell_far (p := ⟨gb163, 1, none⟩) (by first | (rw [add_block]; exact hn165_1) | (show (Addr.add _ _).block ≠ _; rw [add_block]; exact hn165_1) | exact hn165_1) (.int .i64 ((rd_T71 l0 x37_3).f1))).trans hx165_1
                                                  replace hx165_2 := (cell_far (p := ⟨gb163, 1, none⟩) (by first | (rw [add_block]; exact hn165_1) | (show (Addr.add _ _).block ≠ _; rw [add_block]; exact hn165_1) | exact hn165_1) (.int .i64 ((rd_T71 l0 x37_3).f1))).trans hx165_2
                                                  replace hx165_3 := (cell_far (p := ⟨gb163, 1, none⟩) (by first | (rw [add_block]; exact hn165_1) | (show (Addr.add _ _).block ≠ _; rw [add_block]; exact hn165_1) | exact hn165_1) (.int .i64 ((rd_T71 l0 x37_3).f1))).trans hx165_3
                                                  replace hx165_0 := (cell_far (p := ⟨gb163, 2, none⟩) (by first | (rw [add_block]; exact hn165_2) | (show (Addr.add _ _).block ≠ _; rw [add_block]; exact hn165_2) | exact hn165_2) (.slice A162_2 ((rd_T71 l0 x37_3).f2).length c162_2)).trans hx165_0
                                                  replace hx165_1 := (cell_far (p := ⟨gb163, 2, none⟩) (by first | (rw [add_block]; exact hn165_2) | (show (Addr.add _ _).block ≠ _; rw [add_block]; exact hn165_2) | exact hn165_2) (.slice A162_2 ((rd_T71 l0 x37_3).f2).length c162_2)).trans hx165_1
                                                  replace hx165_2 := (cell_far (p := ⟨gb163, 2, none⟩) (by first | (rw [add_block]; exact hn165_2) | (show (Addr.add _ _).block ≠ _; rw [add_block]; exact hn165_2) | exact hn165_2) (.slice A162_2 ((rd_T71 l0 x37_3).f2).length c162_2)).trans hx165_2
                                                  replace hx165_3 := (cell_far (p := ⟨gb163, 2, none⟩) (by first | (rw [add_block]; exact hn165_2) | (show (Addr.add _ _).block ≠ _; rw [add_block]; exact hn165_2) | exact hn165_2) (.slice A162_2 ((rd_T71 l0 x37_3).f2).length c162_2)).trans hx165_3
                                                  replace hx165_0 := (cell_far (p := ⟨gb163, 3, none⟩) (by first | (rw [add_block]; exact hn165_3) | (show (Addr.add _ _).block ≠ _; rw [add_block]; exact hn165_3) | exact hn165_3) (.int .i64 ((rd_T71 l0 x37_3).f3))).trans hx165_0
                                                  replace hx165_1 := (cell_far (p := ⟨gb163, 3, none⟩) (by first | (rw [add_block]; exact hn165_3) | (show (Addr.add _ _).block ≠ _; rw [add_block]; exact hn165_3) | exact hn165_3) (.int .i64 ((rd_T71 l0 x37_3).f3))).trans hx165_1
                                                  replace hx165_2 := (cell_far (p := ⟨gb163, 3, none⟩) (by first | (rw [add_block]; exact hn165_3) | (show (Addr.add _ _).block ≠ _; rw [add_block]; exact hn165_3) | exact hn165_3) (.int .i64 ((rd_T71 l0 x37_3).f3))).trans hx165_2
                                                  replace hx165_3 := (cell_far (p := ⟨gb163, 3, none⟩) (by first | (rw [add_block]; exact hn165_3) | (show (Addr.add _ _).block ≠ _; rw [add_block]; exact hn165_3) | exact hn165_3) (.int .i64 ((rd_T71 l0 x37_3).f3))).trans hx165_3
                                                  replace hx165_0 := (cell_far (p := ⟨gb163, 4, none⟩) (by first | (rw [add_block]; exact hn165_4) | (show (Addr.add _ _).block ≠ _; rw [add_block]; exact hn165_4) | exact hn165_4) (.int .i64 ((rd_T71 l0 x37_3).f4))).trans hx165_0
                                                  replace hx165_1 := (cell_far (p := ⟨gb163, 4, none⟩) (by first | (rw [add_block]; exact hn165_4) | (show (Addr.add _ _).block ≠ _; rw [add_block]; exact hn165_4) | exact hn165_4) (.int .i64 ((rd_T71 l0 x37_3).f4))).trans hx165_1
                                                  replace hx165_2 := (cell_far (p := ⟨gb163, 4, none⟩) (by first | (rw [add_block]; exact hn165_4) | (show (Addr.add _ _).block ≠ _; rw [add_block]; exact hn165_4) | exact hn165_4) (.int .i64 ((rd_T71 l0 x37_3).f4))).trans hx165_2
                                                  replace hx165_3 := (cell_far (p := ⟨gb163, 4, none⟩) (by first | (rw [add_block]; exact hn165_4) | (show (Addr.add _ _).block ≠ _; rw [add_block]; exact hn165_4) | exact hn165_4) (.int .i64 ((rd_T71 l0 x37_3).f4))).trans hx165_3
                                                  (try have hy165_0 := fun (n_ : Nat) => (show (((((((w21.drewN n_).setCell ⟨gb163, 0, none⟩ (.int .i64 ((rd_T71 l0 x37_3).f0))).setCell ⟨gb163, 1, none⟩ (.int .i64 ((rd_T71 l0 x37_3).f1))).setCell ⟨gb163, 2, none⟩ (.slice A162_2 ((rd_T71 l0 x37_3).f2).length c162_2)).setCell ⟨gb163, 3, none⟩ (.int .i64 ((rd_T71 l0 x37_3).f3))).setCell ⟨gb163, 4, none⟩ (.int .i64 ((rd_T71 l0 x37_3).f4)))).cell? _ = some _ from hx165_0))
                                                  (try have hy165_1 := fun (n_ : Nat) => (show (((((((w21.drewN n_).setCell ⟨gb163, 0, none⟩ (.int .i64 ((rd_T71 l0 x37_3).f0))).setCell ⟨gb163, 1, none⟩ (.int .i64 ((rd_T71 l0 x37_3).f1))).setCell ⟨gb163, 2, none⟩ (.slice A162_2 ((rd_T71 l0 x37_3).f2).length c162_2)).setCell ⟨gb163, 3, none⟩ (.int .i64 ((rd_T71 l0 x37_3).f3))).setCell ⟨gb163, 4, none⟩ (.int .i64 ((rd_T71 l0 x37_3).f4)))).cell? _ = some _ from hx165_1))
                                                  (try have hy165_2 := fun (n_ : Nat) => (show (((((((w21.drewN n_).setCell ⟨gb163, 0, none⟩ (.int .i64 ((rd_T71 l0 x37_3).f0))).setCell ⟨gb163, 1, none⟩ (.int .i64 ((rd_T71 l0 x37_3).f1))).setCell ⟨gb163, 2, none⟩ (.slice A162_2 ((rd_T71 l0 x37_3).f2).length c162_2)).setCell ⟨gb163, 3, none⟩ (.int .i64 ((rd_T71 l0 x37_3).f3))).setCell ⟨gb163, 4, none⟩ (.int .i64 ((rd_T71 l0 x37_3).f4)))).cell? _ = some _ from hx165_2))
                                                  (try have hy165_3 := fun (n_ : Nat) => (show (((((((w21.drewN n_).setCell ⟨gb163, 0, none⟩ (.int .i64 ((rd_T71 l0 x37_3).f0))).setCell ⟨gb163, 1, none⟩ (.int .i64 ((rd_T71 l0 x37_3).f1))).setCell ⟨gb163, 2, none⟩ (.slice A162_2 ((rd_T71 l0 x37_3).f2).length c162_2)).setCell ⟨gb163, 3, none⟩ (.int .i64 ((rd_T71 l0 x37_3).f3))).setCell ⟨gb163, 4, none⟩ (.int .i64 ((rd_T71 l0 x37_3).f4)))).cell? _ = some _ from hx165_3))
                                                  clear hn165_0
                                                  clear hn165_1
                                                  clear hn165_2
                                                  clear hn165_3
                                                  clear hn165_4
                                                  replace p165 := eq_true p165
                                                  replace q165 := eq_true q165
                                                  go_wp2
                                                  repeat (go_quiet (fail); try go_wp2)
                                                  go_meet
                                                  case rel => exact ⟨_, (false), (by first | rfl | (simp; done) | (simp [*]; done)), H', ⟨by have := HK1.out; have := HK2.out; have := HK3.out; first | omega | exact Nat.le_refl _⟩, ⟨by (with_reducible repeat (first | refine blk_drewN ?_ _ | refine blk_drew ?_ | refine blk_alloc ?_ _)); refine blk_far ?_ NB161_163.out _; (with_reducible repeat (first | refine blk_drewN ?_ _ | refine blk_drew ?_ | refine blk_alloc ?_ _)); refine blk_far ?_ NB161_163.out _; (with_reducible repeat (first | refine blk_drewN ?_ _ | refine blk_drew ?_ | refine blk_alloc ?_ _)); refine blk_far ?_ NB161_163.out _; (with_reducible repeat (first | refine blk_drewN ?_ _ | refine blk_drew ?_ | refine blk_alloc ?_ _)); refine blk_far ?_ NB161_163.out _; (with_reducible repeat (first | refine blk_drewN ?_ _ | refine blk_drew ?_ | refine blk_alloc ?_ _)); refine blk_far ?_ NB161_163.out _; (with_reducible repeat (first | refine blk_drewN ?_ _ | refine blk_drew ?_ | refine blk_alloc ?_ _)); exact BK161.out⟩, ⟨by (with_reducible repeat (first | refine blk_drewN ?_ _ | refine blk_drew ?_ | refine blk_alloc ?_ _)); refine blk_put (cs := #[.int .i64 ((rd_T71 l0 x37_3).f0), .int .i64 ((rd_T71 l0 x37_3).f1), .slice A162_2 ((rd_T71 l0 x37_3).f2).length c162_2, .int .i64 ((rd_T71 l0 x37_3).f3), .int .i64 0]) ?_ 4 _ rfl; (with_reducible repeat (first | refine blk_drewN ?_ _ | refine blk_drew ?_ | refine blk_alloc ?_ _)); refine blk_put (cs := #[.int .i64 ((rd_T71 l0 x37_3).f0), .int .i64 ((rd_T71 l0 x37_3).f1), .slice A162_2 ((rd_T71 l0 x37_3).f2).length c162_2, .int .i64 0, .int .i64 0]) ?_ 3 _ rfl; (with_reducible repeat (first | refine blk_drewN ?_ _ | refine blk_drew ?_ | refine blk_alloc ?_ _)); refine blk_put (cs := #[.int .i64 ((rd_T71 l0 x37_3).f0), .int .i64 ((rd_T71 l0 x37_3).f1), .slice none 0 0, .int .i64 0, .int .i64 0]) ?_ 2 _ rfl; (with_reducible repeat (first | refine blk_drewN ?_ _ | refine blk_drew ?_ | refine blk_alloc ?_ _)); refine blk_put (cs := #[.int .i64 ((rd_T71 l0 x37_3).f0), .int .i64 0, .slice none 0 0, .int .i64 0, .int .i64 0]) ?_ 1 _ rfl; (with_reducible repeat (first | refine blk_drewN ?_ _ | refine blk_drew ?_ | refine blk_alloc ?_ _)); refine blk_put (cs := #[.int .i64 0, .int .i64 0, .slice none 0 0, .int .i64 0, .int .i64 0]) ?_ 0 _ rfl; (with_reducible repeat (first | refine blk_drewN ?_ _ | refine blk_drew ?_ | refine blk_alloc ?_ _)); exact BK163.out⟩, ⟨by repeat (first | (with_reducible first | exact HB.out | apply below_alloc | apply pw_below_drewN | apply below_drew1 | refine below_set ?_ GE161.out | refine below_set ?_ GE163.out) | exact HB.out)⟩⟩
                                              · rw [if_neg c31] at H
                                                have c31b0 : decide (0 ≤ ((rd_T70 l1 x37_3).f1)) = false := decide_eq_false c31
                                                clear c31
                                                have H' := Aside0.mk H
                                                clear H
                                                have hnb39 := NB161_163.out
                                                have hnc39 := NB163_161.out
                                                have hcz40_0 : w21.cell? ⟨gb161, 0, none⟩ = some (.int .i64 ((rd_T71 l0 x30_2).f0)) := (blk_cell BK161.out 0).trans rfl
                                                have hcz40_1 : w21.cell? ⟨gb161, 1, none⟩ = some (.int .i64 ((rd_T71 l0 x30_2).f1)) := (blk_cell BK161.out 1).trans rfl
                                                have hcz40_2 : w21.cell? ⟨gb161, 2, none⟩ = some (.slice A160_2 ((rd_T71 l0 x30_2).f2).length c160_2) := (blk_cell BK161.out 2).trans rfl
                                                have hcz40_3 : w21.cell? ⟨gb161, 3, none⟩ = some (.int .i64 ((rd_T71 l0 x30_2).f3)) := (blk_cell BK161.out 3).trans rfl
                                                have hcz40_4 : w21.cell? ⟨gb161, 4, none⟩ = some (.int .i64 ((rd_T71 l0 x30_2).f4)) := (blk_cell BK161.out 4).trans rfl
                                                have hfz40_0 := blk_frozen BK161.out 0
                                                have hfz40_1 := blk_frozen BK161.out 1
                                                have hfz40_2 := blk_frozen BK161.out 2
                                                have hfz40_3 := blk_frozen BK161.out 3
                                                have hfz40_4 := blk_frozen BK161.out 4
                                                have hcz41_0 : w21.cell? ⟨gb163, 0, none⟩ = some (.int .i64 0) := (blk_cell BK163.out 0).trans rfl
                                                have hcz41_1 : w21.cell? ⟨gb163, 1, none⟩ = some (.int .i64 0) := (blk_cell BK163.out 1).trans rfl
                                                have hcz41_2 : w21.cell? ⟨gb163, 2, none⟩ = some (.slice none 0 0) := (blk_cell BK163.out 2).trans rfl
                                                have hcz41_3 : w21.cell? ⟨gb163, 3, none⟩ = some (.int .i64 0) := (blk_cell BK163.out 3).trans rfl
                                                have hcz41_4 : w21.cell? ⟨gb163, 4, none⟩ = some (.int .i64 0) := (blk_cell BK163.out 4).trans rfl
                                                have hfz41_0 := blk_frozen BK163.out 0
                                                have hfz41_1 := blk_frozen BK163.out 1
                                                have hfz41_2 := blk_frozen BK163.out 2
                                                have hfz41_3 := blk_frozen BK163.out 3
                                                have hfz41_4 := blk_frozen BK163.out 4
                                                have p164 : 0 ≤ (x30_2 : Int) := of_decide_eq_true (by first | (with_reducible assumption) | assumption)
                                                have q164 : x30_2 < (l1.length : Int) := of_decide_eq_true (by first | (with_reducible assumption) | assumption)
                                                obtain ⟨ad164, A164_2, c164_2, e164, hx164_0, hx164_1, hx164_2, hx164_3, hl164_2, hi164_2⟩ := at_T70 HR1.out x30_2 p164 q164
                                                cases e164
                                                have hn164_0 : ad164.block ≠ gb163 := Nat.ne_of_lt (Nat.lt_of_lt_of_le (by have := World.block_lt_of_cell? _ _ hx164_0; first | rwa [add_block] at this | exact this) GW163.out)
                                                have hn164_1 : ad164.block ≠ gb163 := Nat.ne_of_lt (Nat.lt_of_lt_of_le (by have := World.block_lt_of_cell? _ _ hx164_0; first | rwa [add_block] at this | exact this) GW163.out)
                                                have hn164_2 : ad164.block ≠ gb163 := Nat.ne_of_lt (Nat.lt_of_lt_of_le (by have := World.block_lt_of_cell? _ _ hx164_0; first | rwa [add_block] at this | exact this) GW163.out)
                                                have hn164_3 : ad164.block ≠ gb163 := Nat.ne_of_lt (Nat.lt_of_lt_of_le (by have := World.block_lt_of_cell? _ _ hx164_0; first | rwa [add_block] at this | exact this) GW163.out)
                                                have hn164_4 : ad164.block ≠ gb163 := Nat.ne_of_lt (Nat.lt_of_lt_of_le (by have := World.block_lt_of_cell? _ _ hx164_0; first | rwa [add_block] at this | exact this) GW163.out)
                                                replace hx164_0 := (HB.out.cell (World.block_lt_of_cell? w _ hx164_0)).trans hx164_0
                                                replace hx164_1 := (HB.out.cell (World.block_lt_of_cell? w _ hx164_1)).trans hx164_1
                                                replace hx164_2 := (HB.out.cell (World.block_lt_of_cell? w _ hx164_2)).trans hx164_2
                                                replace hx164_3 := (HB.out.cell (World.block_lt_of_cell? w _ hx164_3)).trans hx164_3
                                                have HR164_2 := Aside0.mk hi164_2
                                                have HC164_2 := Aside0.mk hl164_2
                                                clear hi164_2 hl164_2
                                                replace hx164_0 := (cell_far (p := ⟨gb163, 0, none⟩) (by first | (rw [add_block]; exact hn164_0) | (show (Addr.add _ _).block ≠ _; rw [add_block]; exact hn164_0) | exact hn164_0) (.int .i64 ((rd_T71 l0 x37_3).f0))).trans hx164_0
                                                replace hx164_1 := (cell_far (p := ⟨gb163, 0, none⟩) (by first | (rw [add_block]; exact hn164_0) | (show (Addr.add _ _).block ≠ _; rw [add_block]; exact hn164_0) | exact hn164_0) (.int .i64 ((rd_T71 l0 x37_3).f0))).trans hx164_1
                                                replace hx164_2 := (cell_far (p := ⟨gb163, 0, none⟩) (by first | (rw [add_block]; exact hn164_0) | (show (Addr.add _ _).block ≠ _; rw [add_block]; exact hn164_0) | exact hn164_0) (.int .i64 ((rd_T71 l0 x37_3).f0))).trans hx164_2
                                                replace hx164_3 := (cell_far (p := ⟨gb163, 0, none⟩) (by first | (rw [add_block]; exact hn164_0) | (show (Addr.add _ _).block ≠ _; rw [add_block]; exact hn164_0) | exact hn164_0) (.int .i64 ((rd_T71 l0 x37_3).f0))).trans hx164_3
                                                replace hx164_0 := (cell_far (p := ⟨gb163, 1, none⟩) (by first | (rw [add_block]; exact hn164_1) | (show (Addr.add _ _).block ≠ _; rw [add_block]; exact hn164_1) | exact hn164_1) (.int .i64 ((rd_T71 l0 x37_3).f1))).trans hx164_0
                                                replace hx164_1 := (cell_far (p := ⟨gb163, 1, none⟩) (by first | (rw [add_block]; exact hn164_1) | (show (Addr.add _ _).block ≠ _; rw [add_block]; exact hn164_1) | exact hn164_1) (.int .i64 ((rd_T71 l0 x37_3).f1))).trans hx164_1
                                                replace hx164_2 := (cell_far (p := ⟨gb163, 1, none⟩) (by first | (rw [add_block]; exact hn164_1) | (show (Addr.add _ _).block ≠ _; rw [add_block]; exact hn164_1) | exact hn164_1) (.int .i64 ((rd_T71 l0 x37_3).f1))).trans hx164_2
                                                replace hx164_3 := (cell_far (p := ⟨gb163, 1, none⟩) (by first | (rw [add_block]; exact hn164_1) | (show (Addr.add _ _).block ≠ _; rw [add_block]; exact hn164_1) | exact hn164_1) (.int .i64 ((rd_T71 l0 x37_3).f1))).trans hx164_3
                                                replace hx164_0 := (cell_far (p := ⟨gb163, 2, none⟩) (by first | (rw [add_block]; exact hn164_2) | (show (Addr.add _ _).block ≠ _; rw [add_block]; exact hn164_2) | exact hn164_2) (.slice A162_2 ((rd_T71 l0 x37_3).f2).length c162_2)).trans hx164_0
                                                replace hx164_1 := (cell_far (p := ⟨gb163, 2, none⟩) (by first | (rw [add_block]; exact hn164_2) | (show (Addr.add _ _).block ≠ _; rw [add_block]; exact hn164_2) | exact hn164_2) (.slice A162_2 ((rd_T71 l0 x37_3).f2).length c162_2)).trans hx164_1
                                                replace hx164_2 := (cell_far (p := ⟨gb163, 2, none⟩) (by first | (rw [add_block]; exact hn164_2) | (show (Addr.add _ _).block ≠ _; rw [add_block]; exact hn164_2) | exact hn164_2) (.slice A162_2 ((rd_T71 l0 x37_3).f2).length c162_2)).trans hx164_2
                                                replace hx164_3 := (cell_far (p := ⟨gb163, 2, none⟩) (by first | (rw [add_block]; exact hn164_2) | (show (Addr.add _ _).block ≠ _; rw [add_block]; exact hn164_2) | exact hn164_2) (.slice A162_2 ((rd_T71 l0 x37_3).f2).length c162_2)).trans hx164_3
                                                replace hx164_0 := (cell_far (p := ⟨gb163, 3, none⟩) (by first | (rw [add_block]; exact hn164_3) | (show (Addr.add _ _).block ≠ _; rw [add_block]; exact hn164_3) | exact hn164_3) (.int .i64 ((rd_T71 l0 x37_3).f3))).trans hx164_0
                                                replace hx164_1 := (cell_far (p := ⟨gb163, 3, none⟩) (by first | (rw [add_block]; exact hn164_3) | (show (Addr.add _ _).block ≠ _; rw [add_block]; exact hn164_3) | exact hn164_3) (.int .i64 ((rd_T71 l0 x37_3).f3))).trans hx164_1
                                                replace hx164_2 := (cell_far (p := ⟨gb163, 3, none⟩) (by first | (rw [add_block]; exact hn164_3) | (show (Addr.add _ _).block ≠ _; rw [add_block]; exact hn164_3) | exact hn164_3) (.int .i64 ((rd_T71 l0 x37_3).f3))).trans hx164_2
                                                replace hx164_3 := (cell_far (p := ⟨gb163, 3, none⟩) (by first | (rw [add_block]; exact hn164_3) | (show (Addr.add _ _).block ≠ _; rw [add_block]; exact hn164_3) | exact hn164_3) (.int .i64 ((rd_T71 l0 x37_3).f3))).trans hx164_3
                                                replace hx164_0 := (cell_far (p := ⟨gb163, 4, none⟩) (by first | (rw [add_block]; exact hn164_4) | (show (Addr.add _ _).block ≠ _; rw [add_block]; exact hn164_4) | exact hn164_4) (.int .i64 ((rd_T71 l0 x37_3).f4))).trans hx164_0
                                                replace hx164_1 := (cell_far (p := ⟨gb163, 4, none⟩) (by first | (rw [add_block]; exact hn164_4) | (show (Addr.add _ _).block ≠ _; rw [add_block]; exact hn164_4) | exact hn164_4) (.int .i64 ((rd_T71 l0 x37_3).f4))).trans hx164_1
                                                replace hx164_2 := (cell_far (p := ⟨gb163, 4, none⟩) (by first | (rw [add_block]; exact hn164_4) | (show (Addr.add _ _).block ≠ _; rw [add_block]; exact hn164_4) | exact hn164_4) (.int .i64 ((rd_T71 l0 x37_3).f4))).trans hx164_2
                                                replace hx164_3 := (cell_far (p := ⟨gb163, 4, none⟩) (by first | (rw [add_block]; exact hn164_4) | (show (Addr.add _ _).block ≠ _; rw [add_block]; exact hn164_4) | exact hn164_4) (.int .i64 ((rd_T71 l0 x37_3).f4))).trans hx164_3
                                                (try have hy164_0 := fun (n_ : Nat) => (show (((((((w21.drewN n_).setCell ⟨gb163, 0, none⟩ (.int .i64 ((rd_T71 l0 x37_3).f0))).setCell ⟨gb163, 1, none⟩ (.int .i64 ((rd_T71 l0 x37_3).f1))).setCell ⟨gb163, 2, none⟩ (.slice A162_2 ((rd_T71 l0 x37_3).f2).length c162_2)).setCell ⟨gb163, 3, none⟩ (.int .i64 ((rd_T71 l0 x37_3).f3))).setCell ⟨gb163, 4, none⟩ (.int .i64 ((rd_T71 l0 x37_3).f4)))).cell? _ = some _ from hx164_0))
                                                (try have hy164_1 := fun (n_ : Nat) => (show (((((((w21.drewN n_).setCell ⟨gb163, 0, none⟩ (.int .i64 ((rd_T71 l0 x37_3).f0))).setCell ⟨gb163, 1, none⟩ (.int .i64 ((rd_T71 l0 x37_3).f1))).setCell ⟨gb163, 2, none⟩ (.slice A162_2 ((rd_T71 l0 x37_3).f2).length c162_2)).setCell ⟨gb163, 3, none⟩ (.int .i64 ((rd_T71 l0 x37_3).f3))).setCell ⟨gb163, 4, none⟩ (.int .i64 ((rd_T71 l0 x37_3).f4)))).cell? _ = some _ from hx164_1))
                                                (try have hy164_2 := fun (n_ : Nat) => (show (((((((w21.drewN n_).setCell ⟨gb163, 0, none⟩ (.int .i64 ((rd_T71 l0 x37_3).f0))).setCell ⟨gb163, 1, none⟩ (.int .i64 ((rd_T71 l0 x37_3).f1))).setCell ⟨gb163, 2, none⟩ (.slice A162_2 ((rd_T71 l0 x37_3).f2).length c162_2)).setCell ⟨gb163, 3, none⟩ (.int .i64 ((rd_T71 l0 x37_3).f3))).setCell ⟨gb163, 4, none⟩ (.int .i64 ((rd_T71 l0 x37_3).f4)))).cell? _ = some _ from hx164_2))
                                                (try have hy164_3 := fun (n_ : Nat) => (show (((((((w21.drewN n_).setCell ⟨gb163, 0, none⟩ (.int .i64 ((rd_T71 l0 x37_3).f0))).setCell ⟨gb163, 1, none⟩ (.int .i64 ((rd_T71 l0 x37_3).f1))).setCell ⟨gb163, 2, none⟩ (.slice A162_2 ((rd_T71 l0 x37_3).f2).length c162_2)).setCell ⟨gb163, 3, none⟩ (.int .i64 ((rd_T71 l0 x37_3).f3))).setCell ⟨gb163, 4, none⟩ (.int .i64 ((rd_T71 l0 x37_3).f4)))).cell? _ = some _ from hx164_3))
                                                clear hn164_0
                                                clear hn164_1
                                                clear hn164_2
                                                clear hn164_3
                                                clear hn164_4
                                                replace p164 := eq_true p164
                                                replace q164 := eq_true q164
                                                have p165 : 0 ≤ (x37_3 : Int) := of_decide_eq_true (by first | (with_reducible assumption) | assumption)
                                                have q165 : x37_3 < (l1.length : Int) := of_decide_eq_true (by first | (with_reducible assumption) | assumption)
                                                obtain ⟨ad165, A165_2, c165_2, e165, hx165_0, hx165_1, hx165_2, hx165_3, hl165_2, hi165_2⟩ := at_T70 HR1.out x37_3 p165 q165
                                                obtain rfl : ad164 = ad165 := (by injection e165)
                                                have hn165_0 : ad164.block ≠ gb163 := Nat.ne_of_lt (Nat.lt_of_lt_of_le (by have := World.block_lt_of_cell? _ _ hx165_0; first | rwa [add_block] at this | exact this) GW163.out)
                                                have hn165_1 : ad164.block ≠ gb163 := Nat.ne_of_lt (Nat.lt_of_lt_of_le (by have := World.block_lt_of_cell? _ _ hx165_0; first | rwa [add_block] at this | exact this) GW163.out)
                                                have hn165_2 : ad164.block ≠ gb163 := Nat.ne_of_lt (Nat.lt_of_lt_of_le (by have := World.block_lt_of_cell? _ _ hx165_0; first | rwa [add_block] at this | exact this) GW163.out)
                                                have hn165_3 : ad164.block ≠ gb163 := Nat.ne_of_lt (Nat.lt_of_lt_of_le (by have := World.block_lt_of_cell? _ _ hx165_0; first | rwa [add_block] at this | exact this) GW163.out)
                                                have hn165_4 : ad164.block ≠ gb163 := Nat.ne_of_lt (Nat.lt_of_lt_of_le (by have := World.block_lt_of_cell? _ _ hx165_0; first | rwa [add_block] at this | exact this) GW163.out)
                                                replace hx165_0 := (HB.out.cell (World.block_lt_of_cell? w _ hx165_0)).trans hx165_0
                                                replace hx165_1 := (HB.out.cell (World.block_lt_of_cell? w _ hx165_1)).trans hx165_1
                                                replace hx165_2 := (HB.out.cell (World.block_lt_of_cell? w _ hx165_2)).trans hx165_2
                                                replace hx165_3 := (HB.out.cell (World.block_lt_of_cell? w _ hx165_3)).trans hx165_3
                                                have HR165_2 := Aside0.mk hi165_2
                                                have HC165_2 := Aside0.mk hl165_2
                                                clear hi165_2 hl165_2
                                                replace hx165_0 := (cell_far (p := ⟨gb163, 0, none⟩) (by first | (rw [add_block]; exact hn165_0) | (show (Addr.add _ _).block ≠ _; rw [add_block]; exact hn165_0) | exact hn165_0) (.int .i64 ((rd_T71 l0 x37_3).f0))).trans hx165_0
                                                replace hx165_1 := (cell_far (p := ⟨gb163, 0, none⟩) (by first | (rw [add_block]; exact hn165_0) | (show (Addr.add _ _).block ≠ _; rw [add_block]; exact hn165_0) | exact hn165_0) (.int .i64 ((rd_T71 l0 x37_3).f0))).trans hx165_1
                                                replace hx165_2 := (cell_far (p := ⟨gb163, 0, none⟩) (by first | (rw [add_block]; exact hn165_0) | (show (Addr.add _ _).block ≠ _; rw [add_block]; exact hn165_0) | exact hn165_0) (.int .i64 ((rd_T71 l0 x37_3).f0))).trans hx165_2
                                                replace hx165_3 := (cell_far (p := ⟨gb163, 0, none⟩) (by first | (rw [add_block]; exact hn165_0) | (show (Addr.add _ _).block ≠ _; rw [add_block]; exact hn165_0) | exact hn165_0) (.int .i64 ((rd_T71 l0 x37_3).f0))).trans hx165_3
                                                replace hx165_0 := (cell_far (p := ⟨gb163, 1, none⟩) (by first | (rw [add_block]; exact hn165_1) | (show (Addr.add _ _).block ≠ _; rw [add_block]; exact hn165_1) | exact hn165_1) (.int .i64 ((rd_T71 l0 x37_3).f1))).trans hx165_0
                                                replace hx165_1 := (cell_far (p := ⟨gb163, 1, none⟩) (by first | (rw [add_block]; exact hn165_1) | (show (Addr.add _ _).block ≠ _; rw [add_block]; exact hn165_1) | exact hn165_1) (.int .i64 ((rd_T71 l0 x37_3).f1))).trans hx165_1
                                                replace hx165_2 := (cell_far (p := ⟨gb163, 1, none⟩) (by first | (rw [add_block]; exact hn165_1) | (show (Addr.add _ _).block ≠ _; rw [add_block]; exact hn165_1) | exact hn165_1) (.int .i64 ((rd_T71 l0 x37_3).f1))).trans hx165_2
                                                replace hx165_3 := (cell_far (p := ⟨gb163, 1, none⟩) (by first | (rw [add_block]; exact hn165_1) | (show (Addr.add _ _).block ≠ _; rw [add_block]; exact hn165_1) | exact hn165_1) (.int .i64 ((rd_T71 l0 x37_3).f1))).trans hx165_3
                                                replace hx165_0 := (cell_far (p := ⟨gb163, 2, none⟩) (by first | (rw [add_block]; exact hn165_2) | (show (Addr.add _ _).block ≠ _; rw [add_block]; exact hn165_2) | exact hn165_2) (.slice A162_2 ((rd_T71 l0 x37_3).f2).length c162_2)).trans hx165_0
                                                replace hx165_1 := (cell_far (p := ⟨gb163, 2, none⟩) (by first | (rw [add_block]; exact hn165_2) | (show (Addr.add _ _).block ≠ _; rw [add_block]; exact hn165_2) | exact hn165_2) (.slice A162_2 ((rd_T71 l0 x37_3).f2).length c162_2)).trans hx165_1
                                                replace hx165_2 := (cell_far (p := ⟨gb163, 2, none⟩) (by first | (rw [add_block]; exact hn165_2) | (show (Addr.add _ _).block ≠ _; rw [add_block]; exact hn165_2) | exact hn165_2) (.slice A162_2 ((rd_T71 l0 x37_3).f2).length c162_2)).trans hx165_2
                                                replace hx165_3 := (cell_far (p := ⟨gb163, 2, none⟩) (by first | (rw [add_block]; exact hn165_2) | (show (Addr.add _ _).block ≠ _; rw [add_block]; exact hn165_2) | exact hn165_2) (.slice A162_2 ((rd_T71 l0 x37_3).f2).length c162_2)).trans hx165_3
                                                replace hx165_0 := (cell_far (p := ⟨gb163, 3, none⟩) (by first | (rw [add_block]; exact hn165_3) | (show (Addr.add _ _).block ≠ _; rw [add_block]; exact hn165_3) | exact hn165_3) (.int .i64 ((rd_T71 l0 x37_3).f3))).trans hx165_0
                                                replace hx165_1 := (cell_far (p := ⟨gb163, 3, none⟩) (by first | (rw [add_block]; exact hn165_3) | (show (Addr.add _ _).block ≠ _; rw [add_block]; exact hn165_3) | exact hn165_3) (.int .i64 ((rd_T71 l0 x37_3).f3))).trans hx165_1
                                                replace hx165_2 := (cell_far (p := ⟨gb163, 3, none⟩) (by first | (rw [add_block]; exact hn165_3) | (show (Addr.add _ _).block ≠ _; rw [add_block]; exact hn165_3) | exact hn165_3) (.int .i64 ((rd_T71 l0 x37_3).f3))).trans hx165_2
                                                replace hx165_3 := (cell_far (p := ⟨gb163, 3, none⟩) (by first | (rw [add_block]; exact hn165_3) | (show (Addr.add _ _).block ≠ _; rw [add_block]; exact hn165_3) | exact hn165_3) (.int .i64 ((rd_T71 l0 x37_3).f3))).trans hx165_3
                                                replace hx165_0 := (cell_far (p := ⟨gb163, 4, none⟩) (by first | (rw [add_block]; exact hn165_4) | (show (Addr.add _ _).block ≠ _; rw [add_block]; exact hn165_4) | exact hn165_4) (.int .i64 ((rd_T71 l0 x37_3).f4))).trans hx165_0
                                                replace hx165_1 := (cell_far (p := ⟨gb163, 4, none⟩) (by first | (rw [add_block]; exact hn165_4) | (show (Addr.add _ _).block ≠ _; rw [add_block]; exact hn165_4) | exact hn165_4) (.int .i64 ((rd_T71 l0 x37_3).f4))).trans hx165_1
                                                replace hx165_2 := (cell_far (p := ⟨gb163, 4, none⟩) (by first | (rw [add_block]; exact hn165_4) | (show (Addr.add _ _).block ≠ _; rw [add_block]; exact hn165_4) | exact hn165_4) (.int .i64 ((rd_T71 l0 x37_3).f4))).trans hx165_2
                                                replace hx165_3 := (cell_far (p := ⟨gb163, 4, none⟩) (by first | (rw [add_block]; exact hn165_4) | (show (Addr.add _ _).block ≠ _; rw [add_block]; exact hn165_4) | exact hn165_4) (.int .i64 ((rd_T71 l0 x37_3).f4))).trans hx165_3
                                                (try have hy165_0 := fun (n_ : Nat) => (show (((((((w21.drewN n_).setCell ⟨gb163, 0, none⟩ (.int .i64 ((rd_T71 l0 x37_3).f0))).setCell ⟨gb163, 1, none⟩ (.int .i64 ((rd_T71 l0 x37_3).f1))).setCell ⟨gb163, 2, none⟩ (.slice A162_2 ((rd_T71 l0 x37_3).f2).length c162_2)).setCell ⟨gb163, 3, none⟩ (.int .i64 ((rd_T71 l0 x37_3).f3))).setCell ⟨gb163, 4, none⟩ (.int .i64 ((rd_T71 l0 x37_3).f4)))).cell? _ = some _ from hx165_0))
                                                (try have hy165_1 := fun (n_ : Nat) => (show (((((((w21.drewN n_).setCell ⟨gb163, 0, none⟩ (.int .i64 ((rd_T71 l0 x37_3).f0))).setCell ⟨gb163, 1, none⟩ (.int .i64 ((rd_T71 l0 x37_3).f1))).setCell ⟨gb163, 2, none⟩ (.slice A162_2 ((rd_T71 l0 x37_3).f2).length c162_2)).setCell ⟨gb163, 3, none⟩ (.int .i64 ((rd_T71 l0 x37_3).f3))).setCell ⟨gb163, 4, none⟩ (.int .i64 ((rd_T71 l0 x37_3).f4)))).cell? _ = some _ from hx165_1))
                                                (try have hy165_2 := fun (n_ : Nat) => (show (((((((w21.drewN n_).setCell ⟨gb163, 0, none⟩ (.int .i64 ((rd_T71 l0 x37_3).f0))).setCell ⟨gb163, 1, none⟩ (.int .i64 ((rd_T71 l0 x37_3).f1))).setCell ⟨gb163, 2, none⟩ (.slice A162_2 ((rd_T71 l0 x37_3).f2).length c162_2)).setCell ⟨gb163, 3, none⟩ (.int .i64 ((rd_T71 l0 x37_3).f3))).setCell ⟨gb163, 4, none⟩ (.int .i64 ((rd_T71 l0 x37_3).f4)))).cell? _ = some _ from hx165_2))
                                                (try have hy165_3 := fun (n_ : Nat) => (show (((((((w21.drewN n_).setCell ⟨gb163, 0, none⟩ (.int .i64 ((rd_T71 l0 x37_3).f0))).setCell ⟨gb163, 1, none⟩ (.int .i64 ((rd_T71 l0 x37_3).f1))).setCell ⟨gb163, 2, none⟩ (.slice A162_2 ((rd_T71 l0 x37_3).f2).length c162_2)).setCell ⟨gb163, 3, none⟩ (.int .i64 ((rd_T71 l0 x37_3).f3))).setCell ⟨gb163, 4, none⟩ (.int .i64 ((rd_T71 l0 x37_3).f4)))).cell? _ = some _ from hx165_3))
                                                clear hn165_0
                                                clear hn165_1
                                                clear hn165_2
                                                clear hn165_3
                                                clear hn165_4
                                                replace p165 := eq_true p165
                                                replace q165 := eq_true q165
                                                go_wp2
                                                repeat (go_quiet (fail); try go_wp2)
                                                go_meet
                                                case rel => exact ⟨_, (false), (by first | rfl | (simp; done) | (simp [*]; done)), H', ⟨by have := HK1.out; have := HK2.out; have := HK3.out; first | omega | exact Nat.le_refl _⟩, ⟨by (with_reducible repeat (first | refine blk_drewN ?_ _ | refine blk_drew ?_ | refine blk_alloc ?_ _)); refine blk_far ?_ NB161_163.out _; (with_reducible repeat (first | refine blk_drewN ?_ _ | refine blk_drew ?_ | refine blk_alloc ?_ _)); refine blk_far ?_ NB161_163.out _; (with_reducible repeat (first | refine blk_drewN ?_ _ | refine blk_drew ?_ | refine blk_alloc ?_ _)); refine blk_far ?_ NB161_163.out _; (with_reducible repeat (first | refine blk_drewN ?_ _ | refine blk_drew ?_ | refine blk_alloc ?_ _)); refine blk_far ?_ NB161_163.out _; (with_reducible repeat (first | refine blk_drewN ?_ _ | refine blk_drew ?_ | refine blk_alloc ?_ _)); refine blk_far ?_ NB161_163.out _; (with_reducible repeat (first | refine blk_drewN ?_ _ | refine blk_drew ?_ | refine blk_alloc ?_ _)); exact BK161.out⟩, ⟨by (with_reducible repeat (first | refine blk_drewN ?_ _ | refine blk_drew ?_ | refine blk_alloc ?_ _)); refine blk_put (cs := #[.int .i64 ((rd_T71 l0 x37_3).f0), .int .i64 ((rd_T71 l0 x37_3).f1), .slice A162_2 ((rd_T71 l0 x37_3).f2).length c162_2, .int .i64 ((rd_T71 l0 x37_3).f3), .int .i64 0]) ?_ 4 _ rfl; (with_reducible repeat (first | refine blk_drewN ?_ _ | refine blk_drew ?_ | refine blk_alloc ?_ _)); refine blk_put (cs := #[.int .i64 ((rd_T71 l0 x37_3).f0), .int .i64 ((rd_T71 l0 x37_3).f1), .slice A162_2 ((rd_T71 l0 x37_3).f2).length c162_2, .int .i64 0, .int .i64 0]) ?_ 3 _ rfl; (with_reducible repeat (first | refine blk_drewN ?_ _ | refine blk_drew ?_ | refine blk_alloc ?_ _)); refine blk_put (cs := #[.int .i64 ((rd_T71 l0 x37_3).f0), .int .i64 ((rd_T71 l0 x37_3).f1), .slice none 0 0, .int .i64 0, .int .i64 0]) ?_ 2 _ rfl; (with_reducible repeat (first | refine blk_drewN ?_ _ | refine blk_drew ?_ | refine blk_alloc ?_ _)); refine blk_put (cs := #[.int .i64 ((rd_T71 l0 x37_3).f0), .int .i64 0, .slice none 0 0, .int .i64 0, .int .i64 0]) ?_ 1 _ rfl; (with_reducible repeat (first | refine blk_drewN ?_ _ | refine blk_drew ?_ | refine blk_alloc ?_ _)); refine blk_put (cs := #[.int .i64 0, .int .i64 0, .slice none 0 0, .int .i64 0, .int .i64 0]) ?_ 0 _ rfl; (with_reducible repeat (first | refine blk_drewN ?_ _ | refine blk_drew ?_ | refine blk_alloc ?_ _)); exact BK163.out⟩, ⟨by repeat (first | (with_reducible first | exact HB.out | apply below_alloc | apply pw_below_drewN | apply below_drew1 | refine below_set ?_ GE161.out | refine below_set ?_ GE163.out) | exact HB.out)⟩⟩
                                            · rw [if_neg c30] at H
                                              exact absurd H (by simp)
                                          · rw [if_neg c29] at H
                                            have c29b0 : decide (0 ≤ ((rd_T70 l1 x30_2).f1)) = false := decide_eq_false c29
                                            clear c29
                                            have H' := Aside0.mk H
                                            clear H
                                            have hnb42 := NB161_163.out
                                            have hnc42 := NB163_161.out
                                            have hcz43_0 : w21.cell? ⟨gb161, 0, none⟩ = some (.int .i64 ((rd_T71 l0 x30_2).f0)) := (blk_cell BK161.out 0).trans rfl
                                            have hcz43_1 : w21.cell? ⟨gb161, 1, none⟩ = some (.int .i64 ((rd_T71 l0 x30_2).f1)) := (blk_cell BK161.out 1).trans rfl
                                            have hcz43_2 : w21.cell? ⟨gb161, 2, none⟩ = some (.slice A160_2 ((rd_T71 l0 x30_2).f2).length c160_2) := (blk_cell BK161.out 2).trans rfl
                                            have hcz43_3 : w21.cell? ⟨gb161, 3, none⟩ = some (.int .i64 ((rd_T71 l0 x30_2).f3)) := (blk_cell BK161.out 3).trans rfl
                                            have hcz43_4 : w21.cell? ⟨gb161, 4, none⟩ = some (.int .i64 ((rd_T71 l0 x30_2).f4)) := (blk_cell BK161.out 4).trans rfl
                                            have hfz43_0 := blk_frozen BK161.out 0
                                            have hfz43_1 := blk_frozen BK161.out 1
                                            have hfz43_2 := blk_frozen BK161.out 2
                                            have hfz43_3 := blk_frozen BK161.out 3
                                            have hfz43_4 := blk_frozen BK161.out 4
                                            have hcz44_0 : w21.cell? ⟨gb163, 0, none⟩ = some (.int .i64 0) := (blk_cell BK163.out 0).trans rfl
                                            have hcz44_1 : w21.cell? ⟨gb163, 1, none⟩ = some (.int .i64 0) := (blk_cell BK163.out 1).trans rfl
                                            have hcz44_2 : w21.cell? ⟨gb163, 2, none⟩ = some (.slice none 0 0) := (blk_cell BK163.out 2).trans rfl
                                            have hcz44_3 : w21.cell? ⟨gb163, 3, none⟩ = some (.int .i64 0) := (blk_cell BK163.out 3).trans rfl
                                            have hcz44_4 : w21.cell? ⟨gb163, 4, none⟩ = some (.int .i64 0) := (blk_cell BK163.out 4).trans rfl
                                            have hfz44_0 := blk_frozen BK163.out 0
                                            have hfz44_1 := blk_frozen BK163.out 1
                                            have hfz44_2 := blk_frozen BK163.out 2
                                            have hfz44_3 := blk_frozen BK163.out 3
                                            have hfz44_4 := blk_frozen BK163.out 4
                                            have p164 : 0 ≤ (x30_2 : Int) := of_decide_eq_true (by first | (with_reducible assumption) | assumption)
                                            have q164 : x30_2 < (l1.length : Int) := of_decide_eq_true (by first | (with_reducible assumption) | assumption)
                                            obtain ⟨ad164, A164_2, c164_2, e164, hx164_0, hx164_1, hx164_2, hx164_3, hl164_2, hi164_2⟩ := at_T70 HR1.out x30_2 p164 q164
                                            cases e164
                                            have hn164_0 : ad164.block ≠ gb163 := Nat.ne_of_lt (Nat.lt_of_lt_of_le (by have := World.block_lt_of_cell? _ _ hx164_0; first | rwa [add_block] at this | exact this) GW163.out)
                                            have hn164_1 : ad164.block ≠ gb163 := Nat.ne_of_lt (Nat.lt_of_lt_of_le (by have := World.block_lt_of_cell? _ _ hx164_0; first | rwa [add_block] at this | exact this) GW163.out)
                                            have hn164_2 : ad164.block ≠ gb163 := Nat.ne_of_lt (Nat.lt_of_lt_of_le (by have := World.block_lt_of_cell? _ _ hx164_0; first | rwa [add_block] at this | exact this) GW163.out)
                                            have hn164_3 : ad164.block ≠ gb163 := Nat.ne_of_lt (Nat.lt_of_lt_of_le (by have := World.block_lt_of_cell? _ _ hx164_0; first | rwa [add_block] at this | exact this) GW163.out)
                                            have hn164_4 : ad164.block ≠ gb163 := Nat.ne_of_lt (Nat.lt_of_lt_of_le (by have := World.block_lt_of_cell? _ _ hx164_0; first | rwa [add_block] at this | exact this) GW163.out)
                                            replace hx164_0 := (HB.out.cell (World.block_lt_of_cell? w _ hx164_0)).trans hx164_0
                                            replace hx164_1 := (HB.out.cell (World.block_lt_of_cell? w _ hx164_1)).trans hx164_1
                                            replace hx164_2 := (HB.out.cell (World.block_lt_of_cell? w _ hx164_2)).trans hx164_2
                                            replace hx164_3 := (HB.out.cell (World.block_lt_of_cell? w _ hx164_3)).trans hx164_3
                                            have HR164_2 := Aside0.mk hi164_2
                                            have HC164_2 := Aside0.mk hl164_2
                                            clear hi164_2 hl164_2
                                            replace hx164_0 := (cell_far (p := ⟨gb163, 0, none⟩) (by first | (rw [add_block]; exact hn164_0) | (show (Addr.add _ _).block ≠ _; rw [add_block]; exact hn164_0) | exact hn164_0) (.int .i64 ((rd_T71 l0 x37_3).f0))).trans hx164_0
                                            replace hx164_1 := (cell_far (p := ⟨gb163, 0, none⟩) (by first | (rw [add_block]; exact hn164_0) | (show (Addr.add _ _).block ≠ _; rw [add_block]; exact hn164_0) | exact hn164_0) (.int .i64 ((rd_T71 l0 x37_3).f0))).trans hx164_1
                                            replace hx164_2 := (cell_far (p := ⟨gb163, 0, none⟩) (by first | (rw [add_block]; exact hn164_0) | (show (Addr.add _ _).block ≠ _; rw [add_block]; exact hn164_0) | exact hn164_0) (.int .i64 ((rd_T71 l0 x37_3).f0))).trans hx164_2
                                            replace hx164_3 := (cell_far (p := ⟨gb163, 0, none⟩) (by first | (rw [add_block]; exact hn164_0) | (show (Addr.add _ _).block ≠ _; rw [add_block]; exact hn164_0) | exact hn164_0) (.int .i64 ((rd_T71 l0 x37_3).f0))).trans hx164_3
                                            replace hx164_0 := (cell_far (p := ⟨gb163, 1, none⟩) (by first | (rw [add_block]; exact hn164_1) | (show (Addr.add _ _).block ≠ _; rw [add_block]; exact hn164_1) | exact hn164_1) (.int .i64 ((rd_T71 l0 x37_3).f1))).trans hx164_0
                                            replace hx164_1 := (cell_far (p := ⟨gb163, 1, none⟩) (by first | (rw [add_block]; exact hn164_1) | (show (Addr.add _ _).block ≠ _; rw [add_block]; exact hn164_1) | exact hn164_1) (.int .i64 ((rd_T71 l0 x37_3).f1))).trans hx164_1
                                            replace hx164_2 := (cell_far (p := ⟨gb163, 1, none⟩) (by first | (rw [add_block]; exact hn164_1) | (show (Addr.add _ _).block ≠ _; rw [add_block]; exact hn164_1) | exact hn164_1) (.int .i64 ((rd_T71 l0 x37_3).f1))).trans hx164_2
                                            replace hx164_3 := (cell_far (p := ⟨gb163, 1, none⟩) (by first | (rw [add_block]; exact hn164_1) | (show (Addr.add _ _).block ≠ _; rw [add_block]; exact hn164_1) | exact hn164_1) (.int .i64 ((rd_T71 l0 x37_3).f1))).trans hx164_3
                                            replace hx164_0 := (cell_far (p := ⟨gb163, 2, none⟩) (by first | (rw [add_block]; exact hn164_2) | (show (Addr.add _ _).block ≠ _; rw [add_block]; exact hn164_2) | exact hn164_2) (.slice A162_2 ((rd_T71 l0 x37_3).f2).length c162_2)).trans hx164_0
                                            replace hx164_1 := (cell_far (p := ⟨gb163, 2, none⟩) (by first | (rw [add_block]; exact hn164_2) | (show (Addr.add _ _).block ≠ _; rw [add_block]; exact hn164_2) | exact hn164_2) (.slice A162_2 ((rd_T71 l0 x37_3).f2).length c162_2)).trans hx164_1
                                            replace hx164_2 := (cell_far (p := ⟨gb163, 2, none⟩) (by first | (rw [add_block]; exact hn164_2) | (show (Addr.add _ _).block ≠ _; rw [add_block]; exact hn164_2) | exact hn164_2) (.slice A162_2 ((rd_T71 l0 x37_3).f2).length c162_2)).trans hx164_2
                                            replace hx164_3 := (cell_far (p := ⟨gb163, 2, none⟩) (by first | (rw [add_block]; exact hn164_2) | (show (Addr.add _ _).block ≠ _; rw [add_block]; exact hn164_2) | exact hn164_2) (.slice A162_2 ((rd_T71 l0 x37_3).f2).length c162_2)).trans hx164_3
                                            replace hx164_0 := (cell_far (p := ⟨gb163, 3, none⟩) (by first | (rw [add_block]; exact hn164_3) | (show (Addr.add _ _).block ≠ _; rw [add_block]; exact hn164_3) | exact hn164_3) (.int .i64 ((rd_T71 l0 x37_3).f3))).trans hx164_0
                                            replace hx164_1 := (cell_far (p := ⟨gb163, 3, none⟩) (by first | (rw [add_block]; exact hn164_3) | (show (Addr.add _ _).block ≠ _; rw [add_block]; exact hn164_3) | exact hn164_3) (.int .i64 ((rd_T71 l0 x37_3).f3))).trans hx164_1
                                            replace hx164_2 := (cell_far (p := ⟨gb163, 3, none⟩) (by first | (rw [add_block]; exact hn164_3) | (show (Addr.add _ _).block ≠ _; rw [add_block]; exact hn164_3) | exact hn164_3) (.int .i64 ((rd_T71 l0 x37_3).f3))).trans hx164_2
                                            replace hx164_3 := (cell_far (p := ⟨gb163, 3, none⟩) (by first | (rw [add_block]; exact hn164_3) | (show (Addr.add _ _).block ≠ _; rw [add_block]; exact hn164_3) | exact hn164_3) (.int .i64 ((rd_T71 l0 x37_3).f3))).trans hx164_3
                                            replace hx164_0 := (cell_far (p := ⟨gb163, 4, none⟩) (by first | (rw [add_block]; exact hn164_4) | (show (Addr.add _ _).block ≠ _; rw [add_block]; exact hn164_4) | exact hn164_4) (.int .i64 ((rd_T71 l0 x37_3).f4))).trans hx164_0
                                            replace hx164_1 := (cell_far (p := ⟨gb163, 4, none⟩) (by first | (rw [add_block]; exact hn164_4) | (show (Addr.add _ _).block ≠ _; rw [add_block]; exact hn164_4) | exact hn164_4) (.int .i64 ((rd_T71 l0 x37_3).f4))).trans hx164_1
                                            replace hx164_2 := (cell_far (p := ⟨gb163, 4, none⟩) (by first | (rw [add_block]; exact hn164_4) | (show (Addr.add _ _).block ≠ _; rw [add_block]; exact hn164_4) | exact hn164_4) (.int .i64 ((rd_T71 l0 x37_3).f4))).trans hx164_2
                                            replace hx164_3 := (cell_far (p := ⟨gb163, 4, none⟩) (by first | (rw [add_block]; exact hn164_4) | (show (Addr.add _ _).block ≠ _; rw [add_block]; exact hn164_4) | exact hn164_4) (.int .i64 ((rd_T71 l0 x37_3).f4))).trans hx164_3
                                            (try have hy164_0 := fun (n_ : Nat) => (show (((((((w21.drewN n_).setCell ⟨gb163, 0, none⟩ (.int .i64 ((rd_T71 l0 x37_3).f0))).setCell ⟨gb163, 1, none⟩ (.int .i64 ((rd_T71 l0 x37_3).f1))).setCell ⟨gb163, 2, none⟩ (.slice A162_2 ((rd_T71 l0 x37_3).f2).length c162_2)).setCell ⟨gb163, 3, none⟩ (.int .i64 ((rd_T71 l0 x37_3).f3))).setCell ⟨gb163, 4, none⟩ (.int .i64 ((rd_T71 l0 x37_3).f4)))).cell? _ = some _ from hx164_0))
                                            (try have hy164_1 := fun (n_ : Nat) => (show (((((((w21.drewN n_).setCell ⟨gb163, 0, none⟩ (.int .i64 ((rd_T71 l0 x37_3).f0))).setCell ⟨gb163, 1, none⟩ (.int .i64 ((rd_T71 l0 x37_3).f1))).setCell ⟨gb163, 2, none⟩ (.slice A162_2 ((rd_T71 l0 x37_3).f2).length c162_2)).setCell ⟨gb163, 3, none⟩ (.int .i64 ((rd_T71 l0 x37_3).f3))).setCell ⟨gb163, 4, none⟩ (.int .i64 ((rd_T71 l0 x37_3).f4)))).cell? _ = some _ from hx164_1))
                                            (try have hy164_2 := fun (n_ : Nat) => (show (((((((w21.drewN n_).setCell ⟨gb163, 0, none⟩ (.int .i64 ((rd_T71 l0 x37_3).f0))).setCell ⟨gb163, 1, none⟩ (.int .i64 ((rd_T71 l0 x37_3).f1))).setCell ⟨gb163, 2, none⟩ (.slice A162_2 ((rd_T71 l0 x37_3).f2).length c162_2)).setCell ⟨gb163, 3, none⟩ (.int .i64 ((rd_T71 l0 x37_3).f3))).setCell ⟨gb163, 4, none⟩ (.int .i64 ((rd_T71 l0 x37_3).f4)))).cell? _ = some _ from hx164_2))
                                            (try have hy164_3 := fun (n_ : Nat) => (show (((((((w21.drewN n_).setCell ⟨gb163, 0, none⟩ (.int .i64 ((rd_T71 l0 x37_3).f0))).setCell ⟨gb163, 1, none⟩ (.int .i64 ((rd_T71 l0 x37_3).f1))).setCell ⟨gb163, 2, none⟩ (.slice A162_2 ((rd_T71 l0 x37_3).f2).length c162_2)).setCell ⟨gb163, 3, none⟩ (.int .i64 ((rd_T71 l0 x37_3).f3))).setCell ⟨gb163, 4, none⟩ (.int .i64 ((rd_T71 l0 x37_3).f4)))).cell? _ = some _ from hx164_3))
                                            clear hn164_0
                                            clear hn164_1
                                            clear hn164_2
                                            clear hn164_3
                                            clear hn164_4
                                            replace p164 := eq_true p164
                                            replace q164 := eq_true q164
                                            go_wp2
                                            repeat (go_quiet (fail); try go_wp2)
                                            go_meet
                                            case rel => exact ⟨_, (false), (by first | rfl | (simp; done) | (simp [*]; done)), H', ⟨by have := HK1.out; have := HK2.out; have := HK3.out; first | omega | exact Nat.le_refl _⟩, ⟨by (with_reducible repeat (first | refine blk_drewN ?_ _ | refine blk_drew ?_ | refine blk_alloc ?_ _)); refine blk_far ?_ NB161_163.out _; (with_reducible repeat (first | refine blk_drewN ?_ _ | refine blk_drew ?_ | refine blk_alloc ?_ _)); refine blk_far ?_ NB161_163.out _; (with_reducible repeat (first | refine blk_drewN ?_ _ | refine blk_drew ?_ | refine blk_alloc ?_ _)); refine blk_far ?_ NB161_163.out _; (with_reducible repeat (first | refine blk_drewN ?_ _ | refine blk_drew ?_ | refine blk_alloc ?_ _)); refine blk_far ?_ NB161_163.out _; (with_reducible repeat (first | refine blk_drewN ?_ _ | refine blk_drew ?_ | refine blk_alloc ?_ _)); refine blk_far ?_ NB161_163.out _; (with_reducible repeat (first | refine blk_drewN ?_ _ | refine blk_drew ?_ | refine blk_alloc ?_ _)); exact BK161.out⟩, ⟨by (with_reducible repeat (first | refine blk_drewN ?_ _ | refine blk_drew ?_ | refine blk_alloc ?_ _)); refine blk_put (cs := #[.int .i64 ((rd_T71 l0 x37_3).f0), .int .i64 ((rd_T71 l0 x37_3).f1), .slice A162_2 ((rd_T71 l0 x37_3).f2).length c162_2, .int .i64 ((rd_T71 l0 x37_3).f3), .int .i64 0]) ?_ 4 _ rfl; (with_reducible repeat (first | refine blk_drewN ?_ _ | refine blk_drew ?_ | refine blk_alloc ?_ _)); refine blk_put (cs := #[.int .i64 ((rd_T71 l0 x37_3).f0), .int .i64 ((rd_T71 l0 x37_3).f1), .slice A162_2 ((rd_T71 l0 x37_3).f2).length c162_2, .int .i64 0, .int .i64 0]) ?_ 3 _ rfl; (with_reducible repeat (first | refine blk_drewN ?_ _ | refine blk_drew ?_ | refine blk_alloc ?_ _)); refine blk_put (cs := #[.int .i64 ((rd_T71 l0 x37_3).f0), .int .i64 ((rd_T71 l0 x37_3).f1), .slice none 0 0, .int .i64 0, .int .i64 0]) ?_ 2 _ rfl; (with_reducible repeat (first | refine blk_drewN ?_ _ | refine blk_drew ?_ | refine blk_alloc ?_ _)); refine blk_put (cs := #[.int .i64 ((rd_T71 l0 x37_3).f0), .int .i64 0, .slice none 0 0, .int .i64 0, .int .i64 0]) ?_ 1 _ rfl; (with_reducible repeat (first | refine blk_drewN ?_ _ | refine blk_drew ?_ | refine blk_alloc ?_ _)); refine blk_put (cs := #[.int .i64 0, .int .i64 0, .slice none 0 0, .int .i64 0, .int .i64 0]) ?_ 0 _ rfl; (with_reducible repeat (first | refine blk_drewN ?_ _ | refine blk_drew ?_ | refine blk_alloc ?_ _)); exact BK163.out⟩, ⟨by repeat (first | (with_reducible first | exact HB.out | apply below_alloc | apply pw_below_drewN | apply below_drew1 | refine below_set ?_ GE161.out | refine below_set ?_ GE163.out) | exact HB.out)⟩⟩
                                        · rw [if_neg c28] at H
                                          exact absurd H (by simp)
                                      · rw [if_neg c27] at H
                                        exact absurd H (by simp)
                                    · rw [if_neg c26] at H
                                      have c26b0 : (((rd_T71 l0 x30_2).f3) == ((rd_T71 l0 x37_3).f3)) = false := beq_eq_false_iff_ne.mpr c26
                                      have c26b1 : (((rd_T71 l0 x30_2).f3) != ((rd_T71 l0 x37_3).f3)) = true := bne_iff_ne.mpr c26
                                      have H' := Aside0.mk H
                                      clear H
                                      have hnb45 := NB161_163.out
                                      have hnc45 := NB163_161.out
                                      have hcz46_0 : w21.cell? ⟨gb161, 0, none⟩ = some (.int .i64 ((rd_T71 l0 x30_2).f0)) := (blk_cell BK161.out 0).trans rfl
                                      have hcz46_1 : w21.cell? ⟨gb161, 1, none⟩ = some (.int .i64 ((rd_T71 l0 x30_2).f1)) := (blk_cell BK161.out 1).trans rfl
                                      have hcz46_2 : w21.cell? ⟨gb161, 2, none⟩ = some (.slice A160_2 ((rd_T71 l0 x30_2).f2).length c160_2) := (blk_cell BK161.out 2).trans rfl
                                      have hcz46_3 : w21.cell? ⟨gb161, 3, none⟩ = some (.int .i64 ((rd_T71 l0 x30_2).f3)) := (blk_cell BK161.out 3).trans rfl
                                      have hcz46_4 : w21.cell? ⟨gb161, 4, none⟩ = some (.int .i64 ((rd_T71 l0 x30_2).f4)) := (blk_cell BK161.out 4).trans rfl
                                      have hfz46_0 := blk_frozen BK161.out 0
                                      have hfz46_1 := blk_frozen BK161.out 1
                                      have hfz46_2 := blk_frozen BK161.out 2
                                      have hfz46_3 := blk_frozen BK161.out 3
                                      have hfz46_4 := blk_frozen BK161.out 4
                                      have hcz47_0 : w21.cell? ⟨gb163, 0, none⟩ = some (.int .i64 0) := (blk_cell BK163.out 0).trans rfl
                                      have hcz47_1 : w21.cell? ⟨gb163, 1, none⟩ = some (.int .i64 0) := (blk_cell BK163.out 1).trans rfl
                                      have hcz47_2 : w21.cell? ⟨gb163, 2, none⟩ = some (.slice none 0 0) := (blk_cell BK163.out 2).trans rfl
                                      have hcz47_3 : w21.cell? ⟨gb163, 3, none⟩ = some (.int .i64 0) := (blk_cell BK163.out 3).trans rfl
                                      have hcz47_4 : w21.cell? ⟨gb163, 4, none⟩ = some (.int .i64 0) := (blk_cell BK163.out 4).trans rfl
                                      have hfz47_0 := blk_frozen BK163.out 0
                                      have hfz47_1 := blk_frozen BK163.out 1
                                      have hfz47_2 := blk_frozen BK163.out 2
                                      have hfz47_3 := blk_frozen BK163.out 3
                                      have hfz47_4 := blk_frozen BK163.out 4
                                      go_wp2
                                      repeat (go_quiet (fail); try go_wp2)
                                      go_meet
                                      case rel => exact ⟨_, (false), (by first | rfl | (simp; done) | (simp [*]; done)), H', ⟨by have := HK1.out; have := HK2.out; have := HK3.out; first | omega | exact Nat.le_refl _⟩, ⟨by (with_reducible repeat (first | refine blk_drewN ?_ _ | refine blk_drew ?_ | refine blk_alloc ?_ _)); refine blk_far ?_ NB161_163.out _; (with_reducible repeat (first | refine blk_drewN ?_ _ | refine blk_drew ?_ | refine blk_alloc ?_ _)); refine blk_far ?_ NB161_163.out _; (with_reducible repeat (first | refine blk_drewN ?_ _ | refine blk_drew ?_ | refine blk_alloc ?_ _)); refine blk_far ?_ NB161_163.out _; (with_reducible repeat (first | refine blk_drewN ?_ _ | refine blk_drew ?_ | refine blk_alloc ?_ _)); refine blk_far ?_ NB161_163.out _; (with_reducible repeat (first | refine blk_drewN ?_ _ | refine blk_drew ?_ | refine blk_alloc ?_ _)); refine blk_far ?_ NB161_163.out _; (with_reducible repeat (first | refine blk_drewN ?_ _ | refine blk_drew ?_ | refine blk_alloc ?_ _)); exact BK161.out⟩, ⟨by (with_reducible repeat (first | refine blk_drewN ?_ _ | refine blk_drew ?_ | refine blk_alloc ?_ _)); refine blk_put (cs := #[.int .i64 ((rd_T71 l0 x37_3).f0), .int .i64 ((rd_T71 l0 x37_3).f1), .slice A162_2 ((rd_T71 l0 x37_3).f2).length c162_2, .int .i64 ((rd_T71 l0 x37_3).f3), .int .i64 0]) ?_ 4 _ rfl; (with_reducible repeat (first | refine blk_drewN ?_ _ | refine blk_drew ?_ | refine blk_alloc ?_ _)); refine blk_put (cs := #[.int .i64 ((rd_T71 l0 x37_3).f0), .int .i64 ((rd_T71 l0 x37_3).f1), .slice A162_2 ((rd_T71 l0 x37_3).f2).length c162_2, .int .i64 0, .int .i64 0]) ?_ 3 _ rfl; (with_reducible repeat (first | refine blk_drewN ?_ _ | refine blk_drew ?_ | refine blk_alloc ?_ _)); refine blk_put (cs := #[.int .i64 ((rd_T71 l0 x37_3).f0), .int .i64 ((rd_T71 l0 x37_3).f1), .slice none 0 0, .int .i64 0, .int .i64 0]) ?_ 2 _ rfl; (with_reducible repeat (first | refine blk_drewN ?_ _ | refine blk_drew ?_ | refine blk_alloc ?_ _)); refine blk_put (cs := #[.int .i64 ((rd_T71 l0 x37_3).f0), .int .i64 0, .slice none 0 0, .int .i64 0, .int .i64 0]) ?_ 1 _ rfl; (with_reducible repeat (first | refine blk_drewN ?_ _ | refine blk_drew ?_ | refine blk_alloc ?_ _)); refine blk_put (cs := #[.int .i64 0, .int .i64 0, .slice none 0 0, .int .i64 0, .int .i64 0]) ?_ 0 _ rfl; (with_reducible repeat (first | refine blk_drewN ?_ _ | refine blk_drew ?_ | refine blk_alloc ?_ _)); exact BK163.out⟩, ⟨by repeat (first | (with_reducible first | exact HB.out | apply below_alloc | apply pw_below_drewN | apply below_drew1 | refine below_set ?_ GE161.out | refine below_set ?_ GE163.out) | exact HB.out)⟩⟩
                                  · rw [if_neg c25] at H
                                    have c25b0 : ((((rd_T71 l0 x30_2).f2).length : Int) == (((rd_T71 l0 x37_3).f2).length : Int)) = false := beq_eq_false_iff_ne.mpr c25
                                    have c25b1 : ((((rd_T71 l0 x30_2).f2).length : Int) != (((rd_T71 l0 x37_3).f2).length : Int)) = true := bne_iff_ne.mpr c25
                                    have c25b2 : (((rd_T71 l0 x30_2).f2).length == ((rd_T71 l0 x37_3).f2).length) = false := by first | simpa using c25 | (simp at c25 ⊢; omega)
                                    have H' := Aside0.mk H
                                    clear H
                                    have hnb48 := NB161_163.out
                                    have hnc48 := NB163_161.out
                                    have hcz49_0 : w21.cell? ⟨gb161, 0, none⟩ = some (.int .i64 ((rd_T71 l0 x30_2).f0)) := (blk_cell BK161.out 0).trans rfl
                                    have hcz49_1 : w21.cell? ⟨gb161, 1, none⟩ = some (.int .i64 ((rd_T71 l0 x30_2).f1)) := (blk_cell BK161.out 1).trans rfl
                                    have hcz49_2 : w21.cell? ⟨gb161, 2, none⟩ = some (.slice A160_2 ((rd_T71 l0 x30_2).f2).length c160_2) := (blk_cell BK161.out 2).trans rfl
                                    have hcz49_3 : w21.cell? ⟨gb161, 3, none⟩ = some (.int .i64 ((rd_T71 l0 x30_2).f3)) := (blk_cell BK161.out 3).trans rfl
                                    have hcz49_4 : w21.cell? ⟨gb161, 4, none⟩ = some (.int .i64 ((rd_T71 l0 x30_2).f4)) := (blk_cell BK161.out 4).trans rfl
                                    have hfz49_0 := blk_frozen BK161.out 0
                                    have hfz49_1 := blk_frozen BK161.out 1
                                    have hfz49_2 := blk_frozen BK161.out 2
                                    have hfz49_3 := blk_frozen BK161.out 3
                                    have hfz49_4 := blk_frozen BK161.out 4
                                    have hcz50_0 : w21.cell? ⟨gb163, 0, none⟩ = some (.int .i64 0) := (blk_cell BK163.out 0).trans rfl
                                    have hcz50_1 : w21.cell? ⟨gb163, 1, none⟩ = some (.int .i64 0) := (blk_cell BK163.out 1).trans rfl
                                    have hcz50_2 : w21.cell? ⟨gb163, 2, none⟩ = some (.slice none 0 0) := (blk_cell BK163.out 2).trans rfl
                                    have hcz50_3 : w21.cell? ⟨gb163, 3, none⟩ = some (.int .i64 0) := (blk_cell BK163.out 3).trans rfl
                                    have hcz50_4 : w21.cell? ⟨gb163, 4, none⟩ = some (.int .i64 0) := (blk_cell BK163.out 4).trans rfl
                                    have hfz50_0 := blk_frozen BK163.out 0
                                    have hfz50_1 := blk_frozen BK163.out 1
                                    have hfz50_2 := blk_frozen BK163.out 2
                                    have hfz50_3 := blk_frozen BK163.out 3
                                    have hfz50_4 := blk_frozen BK163.out 4
                                    go_wp2
                                    repeat (go_quiet (fail); try go_wp2)
                                    go_meet
                                    case rel => exact ⟨_, (false), (by first | rfl | (simp; done) | (simp [*]; done)), H', ⟨by have := HK1.out; have := HK2.out; have := HK3.out; first | omega | exact Nat.le_refl _⟩, ⟨by (with_reducible repeat (first | refine blk_drewN ?_ _ | refine blk_drew ?_ | refine blk_alloc ?_ _)); refine blk_far ?_ NB161_163.out _; (with_reducible repeat (first | refine blk_drewN ?_ _ | refine blk_drew ?_ | refine blk_alloc ?_ _)); refine blk_far ?_ NB161_163.out _; (with_reducible repeat (first | refine blk_drewN ?_ _ | refine blk_drew ?_ | refine blk_alloc ?_ _)); refine blk_far ?_ NB161_163.out _; (with_reducible repeat (first | refine blk_drewN ?_ _ | refine blk_drew ?_ | refine blk_alloc ?_ _)); refine blk_far ?_ NB161_163.out _; (with_reducible repeat (first | refine blk_drewN ?_ _ | refine blk_drew ?_ | refine blk_alloc ?_ _)); refine blk_far ?_ NB161_163.out _; (with_reducible repeat (first | refine blk_drewN ?_ _ | refine blk_drew ?_ | refine blk_alloc ?_ _)); exact BK161.out⟩, ⟨by (with_reducible repeat (first | refine blk_drewN ?_ _ | refine blk_drew ?_ | refine blk_alloc ?_ _)); refine blk_put (cs := #[.int .i64 ((rd_T71 l0 x37_3).f0), .int .i64 ((rd_T71 l0 x37_3).f1), .slice A162_2 ((rd_T71 l0 x37_3).f2).length c162_2, .int .i64 ((rd_T71 l0 x37_3).f3), .int .i64 0]) ?_ 4 _ rfl; (with_reducible repeat (first | refine blk_drewN ?_ _ | refine blk_drew ?_ | refine blk_alloc ?_ _)); refine blk_put (cs := #[.int .i64 ((rd_T71 l0 x37_3).f0), .int .i64 ((rd_T71 l0 x37_3).f1), .slice A162_2 ((rd_T71 l0 x37_3).f2).length c162_2, .int .i64 0, .int .i64 0]) ?_ 3 _ rfl; (with_reducible repeat (first | refine blk_drewN ?_ _ | refine blk_drew ?_ | refine blk_alloc ?_ _)); refine blk_put (cs := #[.int .i64 ((rd_T71 l0 x37_3).f0), .int .i64 ((rd_T71 l0 x37_3).f1), .slice none 0 0, .int .i64 0, .int .i64 0]) ?_ 2 _ rfl; (with_reducible repeat (first | refine blk_drewN ?_ _ | refine blk_drew ?_ | refine blk_alloc ?_ _)); refine blk_put (cs := #[.int .i64 ((rd_T71 l0 x37_3).f0), .int .i64 0, .slice none 0 0, .int .i64 0, .int .i64 0]) ?_ 1 _ rfl; (with_reducible repeat (first | refine blk_drewN ?_ _ | refine blk_drew ?_ | refine blk_alloc ?_ _)); refine blk_put (cs := #[.int .i64 0, .int .i64 0, .slice none 0 0, .int .i64 0, .int .i64 0]) ?_ 0 _ rfl; (with_reducible repeat (first | refine blk_drewN ?_ _ | refine blk_drew ?_ | refine blk_alloc ?_ _)); exact BK163.out⟩, ⟨by repeat (first | (with_reducible first | exact HB.out | apply below_alloc | apply pw_below_drewN | apply below_drew1 | refine below_set ?_ GE161.out | refine below_set ?_ GE163.out) | exact HB.out)⟩⟩
                                · rw [if_neg c24] at H
                                  have c24b0 : (((rd_T71 l0 x30_2).f0) == ((rd_T71 l0 x37_3).f0)) = false := beq_eq_false_iff_ne.mpr c24
                                  have c24b1 : (((rd_T71 l0 x30_2).f0) != ((rd_T71 l0 x37_3).f0)) = true := bne_iff_ne.mpr c24
                                  (first | rw [c24b0] | (simp only [i64_w, i32_w]; rw [c24b0]) | skip)
                                  have H' := Aside0.mk H
                                  clear H
                                  have hnb51 := NB161_163.out
                                  have hnc51 := NB163_161.out
                                  have hcz52_0 : w21.cell? ⟨gb161, 0, none⟩ = some (.int .i64 ((rd_T71 l0 x30_2).f0)) := (blk_cell BK161.out 0).trans rfl
                                  have hcz52_1 : w21.cell? ⟨gb161, 1, none⟩ = some (.int .i64 ((rd_T71 l0 x30_2).f1)) := (blk_cell BK161.out 1).trans rfl
                                  have hcz52_2 : w21.cell? ⟨gb161, 2, none⟩ = some (.slice A160_2 ((rd_T71 l0 x30_2).f2).length c160_2) := (blk_cell BK161.out 2).trans rfl
                                  have hcz52_3 : w21.cell? ⟨gb161, 3, none⟩ = some (.int .i64 ((rd_T71 l0 x30_2).f3)) := (blk_cell BK161.out 3).trans rfl
                                  have hcz52_4 : w21.cell? ⟨gb161, 4, none⟩ = some (.int .i64 ((rd_T71 l0 x30_2).f4)) := (blk_cell BK161.out 4).trans rfl
                                  have hfz52_0 := blk_frozen BK161.out 0
                                  have hfz52_1 := blk_frozen BK161.out 1
                                  have hfz52_2 := blk_frozen BK161.out 2
                                  have hfz52_3 := blk_frozen BK161.out 3
                                  have hfz52_4 := blk_frozen BK161.out 4
                                  have hcz53_0 : w21.cell? ⟨gb163, 0, none⟩ = some (.int .i64 0) := (blk_cell BK163.out 0).trans rfl
                                  have hcz53_1 : w21.cell? ⟨gb163, 1, none⟩ = some (.int .i64 0) := (blk_cell BK163.out 1).trans rfl
                                  have hcz53_2 : w21.cell? ⟨gb163, 2, none⟩ = some (.slice none 0 0) := (blk_cell BK163.out 2).trans rfl
                                  have hcz53_3 : w21.cell? ⟨gb163, 3, none⟩ = some (.int .i64 0) := (blk_cell BK163.out 3).trans rfl
                                  have hcz53_4 : w21.cell? ⟨gb163, 4, none⟩ = some (.int .i64 0) := (blk_cell BK163.out 4).trans rfl
                                  have hfz53_0 := blk_frozen BK163.out 0
                                  have hfz53_1 := blk_frozen BK163.out 1
                                  have hfz53_2 := blk_frozen BK163.out 2
                                  have hfz53_3 := blk_frozen BK163.out 3
                                  have hfz53_4 := blk_frozen BK163.out 4
                                  go_wp2
                                  repeat (go_quiet (fail); try go_wp2)
                                  go_meet
                                  case rel => exact ⟨_, (false), (by first | rfl | (simp; done) | (simp [*]; done)), H', ⟨by have := HK1.out; have := HK2.out; have := HK3.out; first | omega | exact Nat.le_refl _⟩, ⟨by (with_reducible repeat (first | refine blk_drewN ?_ _ | refine blk_drew ?_ | refine blk_alloc ?_ _)); refine blk_far ?_ NB161_163.out _; (with_reducible repeat (first | refine blk_drewN ?_ _ | refine blk_drew ?_ | refine blk_alloc ?_ _)); refine blk_far ?_ NB161_163.out _; (with_reducible repeat (first | refine blk_drewN ?_ _ | refine blk_drew ?_ | refine blk_alloc ?_ _)); refine blk_far ?_ NB161_163.out _; (with_reducible repeat (first | refine blk_drewN ?_ _ | refine blk_drew ?_ | refine blk_alloc ?_ _)); refine blk_far ?_ NB161_163.out _; (with_reducible repeat (first | refine blk_drewN ?_ _ | refine blk_drew ?_ | refine blk_alloc ?_ _)); refine blk_far ?_ NB161_163.out _; (with_reducible repeat (first | refine blk_drewN ?_ _ | refine blk_drew ?_ | refine blk_alloc ?_ _)); exact BK161.out⟩, ⟨by (with_reducible repeat (first | refine blk_drewN ?_ _ | refine blk_drew ?_ | refine blk_alloc ?_ _)); refine blk_put (cs := #[.int .i64 ((rd_T71 l0 x37_3).f0), .int .i64 ((rd_T71 l0 x37_3).f1), .slice A162_2 ((rd_T71 l0 x37_3).f2).length c162_2, .int .i64 ((rd_T71 l0 x37_3).f3), .int .i64 0]) ?_ 4 _ rfl; (with_reducible repeat (first | refine blk_drewN ?_ _ | refine blk_drew ?_ | refine blk_alloc ?_ _)); refine blk_put (cs := #[.int .i64 ((rd_T71 l0 x37_3).f0), .int .i64 ((rd_T71 l0 x37_3).f1), .slice A162_2 ((rd_T71 l0 x37_3).f2).length c162_2, .int .i64 0, .int .i64 0]) ?_ 3 _ rfl; (with_reducible repeat (first | refine blk_drewN ?_ _ | refine blk_drew ?_ | refine blk_alloc ?_ _)); refine blk_put (cs := #[.int .i64 ((rd_T71 l0 x37_3).f0), .int .i64 ((rd_T71 l0 x37_3).f1), .slice none 0 0, .int .i64 0, .int .i64 0]) ?_ 2 _ rfl; (with_reducible repeat (first | refine blk_drewN ?_ _ | refine blk_drew ?_ | refine blk_alloc ?_ _)); refine blk_put (cs := #[.int .i64 ((rd_T71 l0 x37_3).f0), .int .i64 0, .slice none 0 0, .int .i64 0, .int .i64 0]) ?_ 1 _ rfl; (with_reducible repeat (first | refine blk_drewN ?_ _ | refine blk_drew ?_ | refine blk_alloc ?_ _)); refine blk_put (cs := #[.int .i64 0, .int .i64 0, .slice none 0 0, .int .i64 0, .int .i64 0]) ?_ 0 _ rfl; (with_reducible repeat (first | refine blk_drewN ?_ _ | refine blk_drew ?_ | refine blk_alloc ?_ _)); exact BK163.out⟩, ⟨by repeat (first | (with_reducible first | exact HB.out | apply below_alloc | apply pw_below_drewN | apply below_drew1 | refine below_set ?_ GE161.out | refine below_set ?_ GE163.out) | exact HB.out)⟩⟩
                              case rest =>
                                clear HC20
                                try clear c1
                                try clear p1
                                try clear q1
                                try clear hx1
                                try clear c2
                                try clear p2
                                try clear c3
                                try clear c4
                                try clear c5
                                try clear c16
                                try clear p16
                                try clear q16
                                try clear hx16
                                try clear c24
                                try clear c24b0
                                try clear c24b1
                                try clear c25
                                try clear c25b0
                                try clear c25b1
                                try clear c25b2
                                try clear c26
                                try clear c26b0
                                try clear c26b1
                                try clear c27
                                try clear c28
                                try clear c29
                                try clear c29b0
                                try clear c30
                                try clear c31
                                try clear c31b0
                                try clear c32
                                try clear c32b0
                                try clear c36
                                try clear c39
                                try clear c42
                                try clear c45
                                try clear c48
                                try clear c51
                                try clear hcz37_0
                                try clear hcz37_1
                                try clear hcz37_2
                                try clear hcz37_3
                                try clear hcz37_4
                                try clear hcz38_0
                                try clear hcz38_1
                                try clear hcz38_2
                                try clear hcz38_3
                                try clear hcz38_4
                                try clear hcz40_0
                                try clear hcz40_1
                                try clear hcz40_2
                                try clear hcz40_3
                                try clear hcz40_4
                                try clear hcz41_0
                                try clear hcz41_1
                                try clear hcz41_2
                                try clear hcz41_3
                                try clear hcz41_4
                                try clear hcz43_0
                                try clear hcz43_1
                                try clear hcz43_2
                                try clear hcz43_3
                                try clear hcz43_4
                                try clear hcz44_0
                                try clear hcz44_1
                                try clear hcz44_2
                                try clear hcz44_3
                                try clear hcz44_4
                                try clear hcz46_0
                                try clear hcz46_1
                                try clear hcz46_2
                                try clear hcz46_3
                                try clear hcz46_4
                                try clear hcz47_0
                                try clear hcz47_1
                                try clear hcz47_2
                                try clear hcz47_3
                                try clear hcz47_4
                                try clear hcz49_0
                                try clear hcz49_1
                                try clear hcz49_2
                                try clear hcz49_3
                                try clear hcz49_4
                                try clear hcz50_0
                                try clear hcz50_1
                                try clear hcz50_2
                                try clear hcz50_3
                                try clear hcz50_4
                                try clear hcz52_0
                                try clear hcz52_1
                                try clear hcz52_2
                                try clear hcz52_3
                                try clear hcz52_4
                                try clear hcz53_0
                                try clear hcz53_1
                                try clear hcz53_2
                                try clear hcz53_3
                                try clear hcz53_4
                                try clear hfz37_0
                                try clear hfz37_1
                                try clear hfz37_2
                                try clear hfz37_3
                                try clear hfz37_4
                                try clear hfz38_0
                                try clear hfz38_1
                                try clear hfz38_2
                                try clear hfz38_3
                                try clear hfz38_4
                                try clear hfz40_0
                                try clear hfz40_1
                                try clear hfz40_2
                                try clear hfz40_3
                                try clear hfz40_4
                                try clear hfz41_0
                                try clear hfz41_1
                                try clear hfz41_2
                                try clear hfz41_3
                                try clear hfz41_4
                                try clear hfz43_0
                                try clear hfz43_1
                                try clear hfz43_2
                                try clear hfz43_3
                                try clear hfz43_4
                                try clear hfz44_0
                                try clear hfz44_1
                                try clear hfz44_2
                                try clear hfz44_3
                                try clear hfz44_4
                                try clear hfz46_0
                                try clear hfz46_1
                                try clear hfz46_2
                                try clear hfz46_3
                                try clear hfz46_4
                                try clear hfz47_0
                                try clear hfz47_1
                                try clear hfz47_2
                                try clear hfz47_3
                                try clear hfz47_4
                                try clear hfz49_0
                                try clear hfz49_1
                                try clear hfz49_2
                                try clear hfz49_3
                                try clear hfz49_4
                                try clear hfz50_0
                                try clear hfz50_1
                                try clear hfz50_2
                                try clear hfz50_3
                                try clear hfz50_4
                                try clear hfz52_0
                                try clear hfz52_1
                                try clear hfz52_2
                                try clear hfz52_3
                                try clear hfz52_4
                                try clear hfz53_0
                                try clear hfz53_1
                                try clear hfz53_2
                                try clear hfz53_3
                                try clear hfz53_4
                                try clear hx164_0
                                try clear hx164_1
                                try clear hx164_2
                                try clear hx164_3
                                try clear hx165_0
                                try clear hx165_1
                                try clear hx165_2
                                try clear hx165_3
                                try clear hx166_0
                                try clear hx166_1
                                try clear hx166_2
                                try clear hx166_3
                                try clear hx167_0
                                try clear hx167_1
                                try clear hx167_2
                                try clear hx167_3
                                try clear p164
                                try clear p165
                                try clear p166
                                try clear p167
                                try clear q164
                                try clear q165
                                try clear q166
                                try clear q167
                                obtain ⟨kq, x98_19, rfl, HA, HJ19, BK161, BK163, HB⟩ := hcut
                                cases kq with
                                | zero => exact absurd HA.out (by simp [impl_Fair.j3])
                                | succ kj19 =>
                                  have H := HA.out
                                  clear HA
                                  simp only [impl_Fair.j3] at H
                                  by_cases c54 : x98_19 = true
                                  · subst c54
                                    have H1 : (some false) = some r := by rw [if_pos rfl] at H; exact H
                                    clear H
                                    have H := H1
                                    clear H1
                                    obtain rfl := Option.some.inj H
                                    go_wp2
                                    repeat (go_quiet (fail); try go_wp2)
                                    go_ret
                                    exact ⟨by first | rfl | (simp [errW_none, errW_some] <;> rfl) | (simp [*, errW_none, errW_some] <;> rfl), by repeat (first | (with_reducible first | exact HB.out | apply below_alloc | apply pw_below_drewN | apply below_drew1 | refine below_set ?_ GE161.out | refine below_set ?_ GE163.out) | exact HB.out)⟩
                                  · replace c54 := Bool.eq_false_iff.mpr c54
                                    subst c54
                                    have H1 : (impl_Fair.l2 kj19 l0 l1 x30_2 l0 (l0.length : Int) x30_2 l0 (l0.length : Int) (wrap64 (x37_3 + 1)) ((rd_T71 l0 x30_2).f0) ((rd_T71 l0 x30_2).f1) ((rd_T71 l0 x30_2).f2) ((rd_T71 l0 x30_2).f3) ((rd_T71 l0 x30_2).f4)) = some r := by rw [if_neg (show ¬ (false = true) by decide)] at H; exact H
                                    clear H
                                    have H := H1
                                    clear H1
                                    have H' := Aside0.mk H
                                    clear H
                                    go_wp2
                                    repeat (go_quiet (fail); try go_wp2)
                                    go_roundg kj19
                                    case measure => have := HK1.out; have := HK2.out; have := HK3.out; have := HJ19.out; omega
                                    case rel => exact ⟨(wrap64 (x37_3 + 1)), (by first | rfl | (simp; done) | (simp [*]; done)), H', ⟨by have := HK1.out; have := HK2.out; have := HK3.out; have := HJ19.out; omega⟩, ⟨by (with_reducible repeat (first | refine blk_drewN ?_ _ | refine blk_drew ?_ | refine blk_alloc ?_ _)); exact BK161.out⟩, ⟨by repeat (first | (with_reducible first | exact HB.out | apply below_alloc | apply pw_below_drewN | apply below_drew1 | refine below_set ?_ GE161.out | refine below_set ?_ GE163.out) | exact HB.out)⟩⟩
                            · rw [if_neg c19] at H
                              exact absurd H (by simp)
                          · rw [if_neg c18] at H
                            exact absurd H (by simp)
                        · rw [if_neg c17] at H
                          have c17b0 : decide (x37_3 < (l0.length : Int)) = false := decide_eq_false c17
                          clear c17
                          have H' := Aside0.mk H
                          clear H
                          go_wp2
                          repeat (go_quiet (fail); try go_wp2)
                          go_roundg k3
                          case measure => have := HK1.out; have := HK2.out; have := HK3.out; omega
                          case rel => exact ⟨(wrap64 (x30_2 + 1)), (by first | rfl | (simp; done) | (simp [*]; done)), H', ⟨by have := HK1.out; have := HK2.out; have := HK3.out; omega⟩, ⟨by repeat (first | (with_reducible first | exact HB.out | apply below_alloc | apply pw_below_drewN | apply below_drew1 | refine below_set ?_ GE161.out) | exact HB.out)⟩⟩
                  · rw [if_neg c14] at H
                    exact absurd H (by simp)
                · rw [if_neg c13] at H
                  exact absurd H (by simp)
              · rw [if_neg c12] at H
                have c12b0 : decide (x30_2 < (l0.length : Int)) = false := decide_eq_false c12
                clear c12
                obtain rfl := Option.some.inj H
                go_wp2
                repeat (go_quiet (fail); try go_wp2)
                go_ret
                exact ⟨by first | rfl | (simp [errW_none, errW_some] <;> rfl) | (simp [*, errW_none, errW_some] <;> rfl), by repeat (first | (with_reducible first | exact HB.out | apply below_alloc | apply pw_below_drewN | apply below_drew1) | exact HB.out)⟩
  · rw [if_neg c3] at H
    have c3b0 : ((l0.length : Int) == (l1.length : Int)) = false := beq_eq_false_iff_ne.mpr c3
    have c3b1 : ((l0.length : Int) != (l1.length : Int)) = true := bne_iff_ne.mpr c3
    have c3b2 : (l0.length == l1.length) = false := by first | simpa using c3 | (simp at c3 ⊢; omega)
    obtain rfl := Option.some.inj H
    go_enter Try.func14, Try.ntmps14
    go_wp2
    repeat (go_quiet (fail); try go_wp2)
    go_ret
    exact ⟨by first | rfl | (simp [errW_none, errW_some] <;> rfl) | (simp [*, errW_none, errW_some] <;> rfl), by repeat (first | (with_reducible first | exact HB.out | apply below_alloc | apply pw_below_drewN | apply below_drew1) | exact HB.out)⟩

end Go.Proofs.Ytpoblnigmfbnfaa.PFnExactFair
