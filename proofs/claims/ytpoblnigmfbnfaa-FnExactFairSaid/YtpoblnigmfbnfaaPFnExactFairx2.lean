-- Printed out of the translation, hand-written contracts beside it; checked by the kernel alone.
import Derived.Test.YtpoblnigmfbnfaaPFnExactFairx0
namespace Go.Proofs.Ytpoblnigmfbnfaa.PFnExactFair
open Go.RowKit Go.Proofs.YtpoblnigmfbnfaaW.PrintWords Go.Proofs.YtpoblnigmfbnfaaW.PrintLast Go.Proofs.YtpoblnigmfbnfaaW.PrintMore
attribute [local go_sem] max2_int min2_int max_two min_two max_three min_three max_four min_four   -- for this text's walks alone
set_option linter.unusedVariables false
set_option linter.unusedSimpArgs false

/-! ### spec_Fair: function 11 -/
mutual
def spec_Fair.l0 : Nat → List (S71) → List (S70) → Int → Option (Bool)
  | 0, _, _, _ => none
  | k + 1, x0, x1, x5 => if x5 < (x0.length : Int) then (if 0 ≤ x5 then (if x5 < (x1.length : Int) then (if ((rd_T70 x1 x5).f0) = x5 then (spec_Fair.l1 k x0 x1 x5 0) else (some false)) else (none)) else (none)) else (some true)
def spec_Fair.l1 : Nat → List (S71) → List (S70) → Int → Int → Option (Bool)
  | 0, _, _, _, _ => none
  | k + 1, x0, x1, x5, x6 => if x6 < (x0.length : Int) then (if 0 ≤ x5 then (if x5 < (x0.length : Int) then (if 0 ≤ x6 then (if ((rd_T71 x0 x5).f0) = ((rd_T71 x0 x6).f0) then (if (((rd_T71 x0 x5).f2).length : Int) = (((rd_T71 x0 x6).f2).length : Int) then (if ((rd_T71 x0 x5).f3) = ((rd_T71 x0 x6).f3) then (if ((rd_T71 x0 x5).f1) > ((rd_T71 x0 x6).f1) then (if x5 < (x1.length : Int) then (if ((rd_T70 x1 x5).f1) ≥ 0 then (if x6 < (x1.length : Int) then (if ((rd_T70 x1 x6).f1) ≥ 0 then (spec_Fair.j2 k x0 x1 x5 x6 (decide (((rd_T70 x1 x5).f1) > ((rd_T70 x1 x6).f1)))) else (spec_Fair.j2 k x0 x1 x5 x6 false)) else (none)) else (spec_Fair.j2 k x0 x1 x5 x6 false)) else (none)) else (spec_Fair.j2 k x0 x1 x5 x6 false)) else (spec_Fair.j2 k x0 x1 x5 x6 false)) else (spec_Fair.j2 k x0 x1 x5 x6 false)) else (spec_Fair.j2 k x0 x1 x5 x6 false)) else (none)) else (none)) else (none)) else (spec_Fair.l0 k x0 x1 (wrap64 (x5 + 1)))
def spec_Fair.j2 : Nat → List (S71) → List (S70) → Int → Int → Bool → Option (Bool)
  | 0, _, _, _, _, _ => none
  | k + 1, x0, x1, x5, x6, x97 => if x97 = true then (some false) else (spec_Fair.l1 k x0 x1 x5 (wrap64 (x6 + 1)))
end
def spec_Fair.f (k : Nat) (l0 : List (S71)) (l1 : List (S70)) : Option (Bool) := if (l0.length : Int) = (l1.length : Int) then (spec_Fair.l0 k l0 l1 0) else (some false)
theorem spec_Fair.mono_l : ∀ k, (∀ y0 y1 y2, LeO (spec_Fair.l0 k y0 y1 y2) (spec_Fair.l0 (k + 1) y0 y1 y2)) ∧ (∀ y0 y1 y2 y3, LeO (spec_Fair.l1 k y0 y1 y2 y3) (spec_Fair.l1 (k + 1) y0 y1 y2 y3)) ∧ (∀ y0 y1 y2 y3 y4, LeO (spec_Fair.j2 k y0 y1 y2 y3 y4) (spec_Fair.j2 (k + 1) y0 y1 y2 y3 y4))
  | 0 => ⟨fun _ _ _ r h => by simp [spec_Fair.l0] at h, fun _ _ _ _ r h => by simp [spec_Fair.l1] at h, fun _ _ _ _ _ r h => by simp [spec_Fair.j2] at h⟩
  | k + 1 => by
    obtain ⟨ih0, ih1, ih2⟩ := spec_Fair.mono_l k
    refine ⟨?_, ?_, ?_⟩
    · intro y0 y1 y2
      unfold spec_Fair.l0
      repeat' first
      | (with_reducible exact ih0 _ _ _)
      | (with_reducible exact ih1 _ _ _ _)
      | (with_reducible exact ih2 _ _ _ _ _)
      | (with_reducible exact LeO.refl _)
      | (with_reducible exact LeO.none _)
      | (with_reducible refine LeO.ite ?_ ?_)
      | (with_reducible refine LeO.bind ?_ (fun _ => ?_))
      | exact ih0 _ _ _
      | exact ih1 _ _ _ _
      | exact ih2 _ _ _ _ _
      | exact LeO.none _
      | refine LeO.ite ?_ ?_
      | refine LeO.bind ?_ (fun _ => ?_)
    · intro y0 y1 y2 y3
      unfold spec_Fair.l1
      repeat' first
      | (with_reducible exact ih0 _ _ _)
      | (with_reducible exact ih1 _ _ _ _)
      | (with_reducible exact ih2 _ _ _ _ _)
      | (with_reducible exact LeO.refl _)
      | (with_reducible exact LeO.none _)
      | (with_reducible refine LeO.ite ?_ ?_)
      | (with_reducible refine LeO.bind ?_ (fun _ => ?_))
      | exact ih0 _ _ _
      | exact ih1 _ _ _ _
      | exact ih2 _ _ _ _ _
      | exact LeO.none _
      | refine LeO.ite ?_ ?_
      | refine LeO.bind ?_ (fun _ => ?_)
    · intro y0 y1 y2 y3 y4
      unfold spec_Fair.j2
      repeat' first
      | (with_reducible exact ih0 _ _ _)
      | (with_reducible exact ih1 _ _ _ _)
      | (with_reducible exact ih2 _ _ _ _ _)
      | (with_reducible exact LeO.refl _)
      | (with_reducible exact LeO.none _)
      | (with_reducible refine LeO.ite ?_ ?_)
      | (with_reducible refine LeO.bind ?_ (fun _ => ?_))
      | exact ih0 _ _ _
      | exact ih1 _ _ _ _
      | exact ih2 _ _ _ _ _
      | exact LeO.none _
      | refine LeO.ite ?_ ?_
      | refine LeO.bind ?_ (fun _ => ?_)
theorem spec_Fair.mono : ∀ a0 a1 k, LeO (spec_Fair.f k a0 a1) (spec_Fair.f (k + 1) a0 a1) := by
  intro a0 a1 k
  obtain ⟨ih0, ih1, ih2⟩ := spec_Fair.mono_l k
  unfold spec_Fair.f
  repeat' first
      | (with_reducible exact ih0 _ _ _)
      | (with_reducible exact ih1 _ _ _ _)
      | (with_reducible exact ih2 _ _ _ _ _)
      | (with_reducible exact LeO.refl _)
      | (with_reducible exact LeO.none _)
      | (with_reducible refine LeO.ite ?_ ?_)
      | (with_reducible refine LeO.bind ?_ (fun _ => ?_))
      | exact ih0 _ _ _
      | exact ih1 _ _ _ _
      | exact ih2 _ _ _ _ _
      | exact LeO.none _
      | refine LeO.ite ?_ ?_
      | refine LeO.bind ?_ (fun _ => ?_)
set_option maxHeartbeats 100000000 in
set_option maxRecDepth 100000 in
theorem spec_Fair.calls (k : Nat) (A0 : Option Addr) (c0 : Nat) (l0 : List (S71)) (A1 : Option Addr) (c1 : Nat) (l1 : List (S70)) (r : Bool) (w : World) (hr0 : Kd.C k71 w A0 l0.length l0) (hc0 : l0.length ≤ c0) (hr1 : Kd.C k70 w A1 l1.length l1) (hc1 : l1.length ≤ c1) (h : spec_Fair.f k l0 l1 = some r) :
    Calls Try.prog 11 #[.slice A0 l0.length c0, .slice A1 l1.length c1] w fun e w' => e = .returned (.bool r) ∧ Below w.heap.size w w' := by
  have hu71 := Try.underlying71
  have HR0 := Aside0.mk hr0
  have HC0 := Aside0.mk hc0
  clear hr0 hc0
  have HR1 := Aside0.mk hr1
  have HC1 := Aside0.mk hc1
  clear hr1 hc1
  have HB := Aside0.mk (Below.refl w.heap.size w)
  have H : (if (l0.length : Int) = (l1.length : Int) then (spec_Fair.l0 k l0 l1 0) else (some false)) = some r := h
  clear h
  by_cases c3 : (l0.length : Int) = (l1.length : Int)
  · rw [if_pos c3] at H
    have c3b0 : ((l0.length : Int) == (l1.length : Int)) = true := beq_iff_eq.mpr c3
    have c3b1 : ((l0.length : Int) != (l1.length : Int)) = false := bne_eq_false_iff_eq.mpr c3
    have c3b2 : (l0.length == l1.length) = true := by first | simpa using c3 | (simp at c3 ⊢; omega)
    clear c3
    have H' := Aside0.mk H
    clear H
    go_enter Try.func11, Try.ntmps11
    go_wp2
    repeat (go_quiet (fail); try go_wp2)
    go_loopg [5] k (fun kq v5 w' => ∃ (x5_1 : Int), v5 = .int .i64 x5_1 ∧ Aside0 (spec_Fair.l0 kq l0 l1 x5_1 = some r) ∧ Aside0 (kq ≤ k) ∧ Aside0 (Below w.heap.size w w'))
    case atStart => exact ⟨(0), (by first | rfl | (simp; done) | (simp [*]; done)), H', ⟨Nat.le_refl _⟩, ⟨by repeat (first | (with_reducible first | exact HB.out | apply below_alloc | apply pw_below_drewN | apply below_drew1) | exact HB.out)⟩⟩
    case round =>
      clear H'
      try clear c1
      try clear p2
      try clear c3
      try clear c3b0
      try clear c3b1
      try clear c3b2
      obtain ⟨x5_1, rfl, HA, HK1, HB⟩ := hrel
      cases gk with
      | zero => exact absurd HA.out (by simp [spec_Fair.l0])
      | succ k1 =>
        have H := HA.out
        clear HA
        simp only [spec_Fair.l0] at H
        by_cases c4 : x5_1 < (l0.length : Int)
        · rw [if_pos c4] at H
          have c4b0 : decide (x5_1 < (l0.length : Int)) = true := decide_eq_true c4
          clear c4
          by_cases c5 : 0 ≤ x5_1
          · rw [if_pos c5] at H
            have c5b0 : decide (0 ≤ x5_1) = true := decide_eq_true c5
            clear c5
            by_cases c6 : x5_1 < (l1.length : Int)
            · rw [if_pos c6] at H
              have c6b0 : decide (x5_1 < (l1.length : Int)) = true := decide_eq_true c6
              clear c6
              by_cases c7 : ((rd_T70 l1 x5_1).f0) = x5_1
              · rw [if_pos c7] at H
                have c7b0 : (((rd_T70 l1 x5_1).f0) == x5_1) = true := beq_iff_eq.mpr c7
                have c7b1 : (((rd_T70 l1 x5_1).f0) != x5_1) = false := bne_eq_false_iff_eq.mpr c7
                clear c7
                have H' := Aside0.mk H
                clear H
                have p109 : 0 ≤ (x5_1 : Int) := of_decide_eq_true (by first | (with_reducible assumption) | assumption)
                have q109 : x5_1 < (l1.length : Int) := of_decide_eq_true (by first | (with_reducible assumption) | assumption)
                obtain ⟨ad109, A109_2, c109_2, e109, hx109_0, hx109_1, hx109_2, hx109_3, hl109_2, hi109_2⟩ := at_T70 HR1.out x5_1 p109 q109
                cases e109
                replace hx109_0 := (HB.out.cell (World.block_lt_of_cell? w _ hx109_0)).trans hx109_0
                replace hx109_1 := (HB.out.cell (World.block_lt_of_cell? w _ hx109_1)).trans hx109_1
                replace hx109_2 := (HB.out.cell (World.block_lt_of_cell? w _ hx109_2)).trans hx109_2
                replace hx109_3 := (HB.out.cell (World.block_lt_of_cell? w _ hx109_3)).trans hx109_3
                have HR109_2 := Aside0.mk hi109_2
                have HC109_2 := Aside0.mk hl109_2
                clear hi109_2 hl109_2
                replace p109 := eq_true p109
                replace q109 := eq_true q109
                go_wp2
                repeat (go_quiet (fail); try go_wp2)
                go_loopg [6] k1 (fun kq v6 w' => ∃ (x6_2 : Int), v6 = .int .i64 x6_2 ∧ Aside0 (spec_Fair.l1 kq l0 l1 x5_1 x6_2 = some r) ∧ Aside0 (kq ≤ k1) ∧ Aside0 (Below w.heap.size w w'))
                case atStart => exact ⟨(0), (by first | rfl | (simp; done) | (simp [*]; done)), H', ⟨Nat.le_refl _⟩, ⟨by repeat (first | (with_reducible first | exact HB.out | apply below_alloc | apply pw_below_drewN | apply below_drew1) | exact HB.out)⟩⟩
                case round =>
                  clear H'
                  try clear c1
                  try clear p1
                  try clear q1
                  try clear hx1
                  try clear p2
                  try clear c3
                  try clear c3b0
                  try clear c3b1
                  try clear c3b2
                  try clear c4
                  try clear c4b0
                  try clear c5
                  try clear c5b0
                  try clear c6
                  try clear c6b0
                  try clear c7
                  try clear c7b0
                  try clear c7b1
                  try clear hx109_0
                  try clear hx109_1
                  try clear hx109_2
                  try clear hx109_3
                  try clear p109
                  try clear p2
                  try clear q109
                  obtain ⟨x6_2, rfl, HA, HK2, HB⟩ := hrel
                  cases gk with
                  | zero => exact absurd HA.out (by simp [spec_Fair.l1])
                  | succ k2 =>
                    have H := HA.out
                    clear HA
                    simp only [spec_Fair.l1] at H
                    by_cases c8 : x6_2 < (l0.length : Int)
                    · rw [if_pos c8] at H
                      have c8b0 : decide (x6_2 < (l0.length : Int)) = true := decide_eq_true c8
                      clear c8
                      by_cases c9 : 0 ≤ x5_1
                      · rw [if_pos c9] at H
                        have c9b0 : decide (0 ≤ x5_1) = true := decide_eq_true c9
                        clear c9
                        by_cases c10 : x5_1 < (l0.length : Int)
                        · rw [if_pos c10] at H
                          have c10b0 : decide (x5_1 < (l0.length : Int)) = true := decide_eq_true c10
                          clear c10
                          by_cases c11 : 0 ≤ x6_2
                          · rw [if_pos c11] at H
                            have c11b0 : decide (0 ≤ x6_2) = true := decide_eq_true c11
                            clear c11
                            have HC12 := Aside0.mk H
                            clear H
                            have p110 : 0 ≤ (x5_1 : Int) := of_decide_eq_true (by first | (with_reducible assumption) | assumption)
                            have q110 : x5_1 < (l0.length : Int) := of_decide_eq_true (by first | (with_reducible assumption) | assumption)
                            obtain ⟨ad110, A110_2, c110_2, e110, hx110_0, hx110_1, hx110_2, hx110_3, hx110_4, hl110_2, hi110_2⟩ := at_T71 HR0.out x5_1 p110 q110
                            cases e110
                            replace hx110_0 := (HB.out.cell (World.block_lt_of_cell? w _ hx110_0)).trans hx110_0
                            replace hx110_1 := (HB.out.cell (World.block_lt_of_cell? w _ hx110_1)).trans hx110_1
                            replace hx110_2 := (HB.out.cell (World.block_lt_of_cell? w _ hx110_2)).trans hx110_2
                            replace hx110_3 := (HB.out.cell (World.block_lt_of_cell? w _ hx110_3)).trans hx110_3
                            replace hx110_4 := (HB.out.cell (World.block_lt_of_cell? w _ hx110_4)).trans hx110_4
                            have HR110_2 := Aside0.mk hi110_2
                            have HC110_2 := Aside0.mk hl110_2
                            clear hi110_2 hl110_2
                            replace p110 := eq_true p110
                            replace q110 := eq_true q110
                            go_upto_region 13 with (first | ((with_reducible refine gate_dst (N := 7) rfl ?_); (try (refine gate_guard (by rfl) ?_; dsimp only)); refine box_event ?hg (N := 7) ?hd (cs := #[.int .i64 0, .int .i64 0, .slice none 0 0, .int .i64 0, .int .i64 0]) (t := 71) ?hr ?_; (case hd => rfl); (case hg => rfl); (case hr => first | (go_simp; done) | (go_simp; rfl)); intro gb111 hg w13 hbox hb; have n0_ := Aside0.mk (below_step (by repeat (first | (with_reducible first | exact HB.out | apply below_alloc | apply pw_below_drewN | apply below_drew1) | exact HB.out)) hb); have n1_ := Aside0.mk (hbox); have n2_ := Aside0.mk ((by rw [hg]; exact (below_size (by repeat (first | (with_reducible first | exact HB.out | apply below_alloc | apply pw_below_drewN | apply below_drew1) | exact HB.out))) : w.heap.size ≤ gb111)); have n3_ := Aside0.mk ((by rw [hg]; exact (below_size (by repeat (first | (with_reducible first | exact HB.out | apply below_alloc | apply pw_below_drewN | apply below_drew1) | exact HB.out))) : w.heap.size ≤ gb111)); clear HB; have HB := n0_; have BK111 := n1_; have GW111 := n2_; have GE111 := n3_; clear n0_ n1_ n2_ n3_; clear hb hbox hg; have hcz14_0 : w13.cell? ⟨gb111, 0, none⟩ = some (.int .i64 0) := (blk_cell BK111.out 0).trans rfl; have hcz14_1 : w13.cell? ⟨gb111, 1, none⟩ = some (.int .i64 0) := (blk_cell BK111.out 1).trans rfl; have hcz14_2 : w13.cell? ⟨gb111, 2, none⟩ = some (.slice none 0 0) := (blk_cell BK111.out 2).trans rfl; have hcz14_3 : w13.cell? ⟨gb111, 3, none⟩ = some (.int .i64 0) := (blk_cell BK111.out 3).trans rfl; have hcz14_4 : w13.cell? ⟨gb111, 4, none⟩ = some (.int .i64 0) := (blk_cell BK111.out 4).trans rfl; have hfz14_0 := blk_frozen BK111.out 0; have hfz14_1 := blk_frozen BK111.out 1; have hfz14_2 := blk_frozen BK111.out 2; have hfz14_3 := blk_frozen BK111.out 3; have hfz14_4 := blk_frozen BK111.out 4; have p112 : 0 ≤ (x6_2 : Int) := of_decide_eq_true (by first | (with_reducible assumption) | assumption); have q112 : x6_2 < (l0.length : Int) := of_decide_eq_true (by first | (with_reducible assumption) | assumption); obtain ⟨ad112, A112_2, c112_2, e112, hx112_0, hx112_1, hx112_2, hx112_3, hx112_4, hl112_2, hi112_2⟩ := at_T71 HR0.out x6_2 p112 q112; obtain rfl : ad110 = ad112 := (by injection e112); have hn112_0 : ad110.block ≠ gb111 := Nat.ne_of_lt (Nat.lt_of_lt_of_le (by have := World.block_lt_of_cell? _ _ hx112_0; first | rwa [add_block] at this | exact this) GW111.out); have hn112_1 : ad110.block ≠ gb111 := Nat.ne_of_lt (Nat.lt_of_lt_of_le (by have := World.block_lt_of_cell? _ _ hx112_0; first | rwa [add_block] at this | exact this) GW111.out); have hn112_2 : ad110.block ≠ gb111 := Nat.ne_of_lt (Nat.lt_of_lt_of_le (by have := World.block_lt_of_cell? _ _ hx112_0; first | rwa [add_block] at this | exact this) GW111.out); have hn112_3 : ad110.block ≠ gb111 := Nat.ne_of_lt (Nat.lt_of_lt_of_le (by have := World.block_lt_of_cell? _ _ hx112_0; first | rwa [add_block] at this | exact this) GW111.out); have hn112_4 : ad110.block ≠ gb111 := Nat.ne_of_lt (Nat.lt_of_lt_of_le (by have := World.block_lt_of_cell? _ _ hx112_0; first | rwa [add_block] at this | exact this) GW111.out); replace hx112_0 := (HB.out.cell (World.block_lt_of_cell? w _ hx112_0)).trans hx112_0; replace hx112_1 := (HB.out.cell (World.block_lt_of_cell? w _ hx112_1)).trans hx112_1; replace hx112_2 := (HB.out.cell (World.block_lt_of_cell? w _ hx112_2)).trans hx112_2; replace hx112_3 := (HB.out.cell (World.block_lt_of_cell? w _ hx112_3)).trans hx112_3; replace hx112_4 := (HB.out.cell (World.block_lt_of_cell? w _ hx112_4)).trans hx112_4; have HR112_2 := Aside0.mk hi112_2; have HC112_2 := Aside0.mk hl112_2; clear hi112_2 hl112_2; replace hx112_0 := (cell_far (p := ⟨gb111, 0, none⟩) (by first | (rw [add_block]; exact hn112_0) | (show (Addr.add _ _).block ≠ _; rw [add_block]; exact hn112_0) | exact hn112_0) (.int .i64 ((rd_T71 l0 x5_1).f0))).trans hx112_0; replace hx112_1 := (cell_far (p := ⟨gb111, 0, none⟩) (by first | (rw [add_block]; exact hn112_0) | (show (Addr.add _ _).block ≠ _; rw [add_block]; exact hn112_0) | exact hn112_0) (.int .i64 ((rd_T71 l0 x5_1).f0))).trans hx112_1; replace hx112_2 := (cell_far (p := ⟨gb111, 0, none⟩) (by first | (rw [add_block]; exact hn112_0) | (show (Addr.add _ _).block ≠ _; rw [add_block]; exact hn112_0) | exact hn112_0) (.int .i64 ((rd_T71 l0 x5_1).f0))).trans hx112_2; replace hx112_3 := (cell_far (p := ⟨gb111, 0, none⟩) (by first | (rw [add_block]; exact hn112_0) | (show (Addr.add _ _).block ≠ _; rw [add_block]; exact hn112_0) | exact hn112_0) (.int .i64 ((rd_T71 l0 x5_1).f0))).trans hx112_3; replace hx112_4 := (cell_far (p := ⟨gb111, 0, none⟩) (by first | (rw [add_block]; exact hn112_0) | (show (Addr.add _ _).block ≠ _; rw [add_block]; exact hn112_0) | exact hn112_0) (.int .i64 ((rd_T71 l0 x5_1).f0))).trans hx112_4; replace hx112_0 := (cell_far (p := ⟨gb111, 1, none⟩) (by first | (rw [add_block]; exact hn112_1) | (show (Addr.add _ _).block ≠ _; rw [add_block]; exact hn112_1) | exact hn112_1) (.int .i64 ((rd_T71 l0 x5_1).f1))).trans hx112_0; replace hx112_1 := (cell_far (p := ⟨gb111, 1, none⟩) (by first | (rw [add_block]; exact hn112_1) | (show (Addr.add _ _).block ≠ _; rw [add_block]; exact hn112_1) | exact hn112_1) (.int .i64 ((rd_T71 l0 x5_1).f1))).trans hx112_1; replace hx112_2 := (cell_far (p := ⟨gb111, 1, none⟩) (by first | (rw [add_block]; exact hn112_1) | (show (Addr.add _ _).block ≠ _; rw [add_block]; exact hn112_1) | exact hn112_1) (.int .i64 ((rd_T71 l0 x5_1).f1))).trans hx112_2; replace hx112_3 := (cell_far (p := ⟨gb111, 1, none⟩) (by first | (rw [add_block]; exact hn112_1) | (show (Addr.add _ _).block ≠ _; rw [add_block]; exact hn112_1) | exact hn112_1) (.int .i64 ((rd_T71 l0 x5_1).f1))).trans hx112_3; replace hx112_4 := (cell_far (p := ⟨gb111, 1, none⟩) (by first | (rw [add_block]; exact hn112_1) | (show (Addr.add _ _).block ≠ _; rw [add_block]; exact hn112_1) | exact hn112_1) (.int .i64 ((rd_T71 l0 x5_1).f1))).trans hx112_4; replace hx112_0 := (cell_far (p := ⟨gb111, 2, none⟩) (by first | (rw [add_block]; exact hn112_2) | (show (Addr.add _ _).block ≠ _; rw [add_block]; exact hn112_2) | exact hn112_2) (.slice A110_2 ((rd_T71 l0 x5_1).f2).length c110_2)).trans hx112_0; replace hx112_1 := (cell_far (p := ⟨gb111, 2, none⟩) (by first | (rw [add_block]; exact hn112_2) | (show (Addr.add _ _).block ≠ _; rw [add_block]; exact hn112_2) | exact hn112_2) (.slice A110_2 ((rd_T71 l0 x5_1).f2).length c110_2)).trans hx112_1; replace hx112_2 := (cell_far (p := ⟨gb111, 2, none⟩) (by first | (rw [add_block]; exact hn112_2) | (show (Addr.add _ _).block ≠ _; rw [add_block]; exact hn112_2) | exact hn112_2) (.slice A110_2 ((rd_T71 l0 x5_1).f2).length c110_2)).trans hx112_2; replace hx112_3 := (cell_far (p := ⟨gb111, 2, none⟩) (by first | (rw [add_block]; exact hn112_2) | (show (Addr.add _ _).block ≠ _; rw [add_block]; exact hn112_2) | exact hn112_2) (.slice A110_2 ((rd_T71 l0 x5_1).f2).length c110_2)).trans hx112_3; replace hx112_4 := (cell_far (p := ⟨gb111, 2, none⟩) (by first | (rw [add_block]; exact hn112_2) | (show (Addr.add _ _).block ≠ _; rw [add_block]; exact hn112_2) | exact hn112_2) (.slice A110_2 ((rd_T71 l0 x5_1).f2).length c110_2)).trans hx112_4; replace hx112_0 := (cell_far (p := ⟨gb111, 3, none⟩) (by first | (rw [add_block]; exact hn112_3) | (show (Addr.add _ _).block ≠ _; rw [add_block]; exact hn112_3) | exact hn112_3) (.int .i64 ((rd_T71 l0 x5_1).f3))).trans hx112_0; replace hx112_1 := (cell_far (p := ⟨gb111, 3, none⟩) (by first | (rw [add_block]; exact hn112_3) | (show (Addr.add _ _).block ≠ _; rw [add_block]; exact hn112_3) | exact hn112_3) (.int .i64 ((rd_T71 l0 x5_1).f3))).trans hx112_1; replace hx112_2 := (cell_far (p := ⟨gb111, 3, none⟩) (by first | (rw [add_block]; exact hn112_3) | (show (Addr.add _ _).block ≠ _; rw [add_block]; exact hn112_3) | exact hn112_3) (.int .i64 ((rd_T71 l0 x5_1).f3))).trans hx112_2; replace hx112_3 := (cell_far (p := ⟨gb111, 3, none⟩) (by first | (rw [add_block]; exact hn112_3) | (show (Addr.add _ _).block ≠ _; rw [add_block]; exact hn112_3) | exact hn112_3) (.int .i64 ((rd_T71 l0 x5_1).f3))).trans hx112_3; replace hx112_4 := (cell_far (p := ⟨gb111, 3, none⟩) (by first | (rw [add_block]; exact hn112_3) | (show (Addr.add _ _).block ≠ _; rw [add_block]; exact hn112_3) | exact hn112_3) (.int .i64 ((rd_T71 l0 x5_1).f3))).trans hx112_4; replace hx112_0 := (cell_far (p := ⟨gb111, 4, none⟩) (by first | (rw [add_block]; exact hn112_4) | (show (Addr.add _ _).block ≠ _; rw [add_block]; exact hn112_4) | exact hn112_4) (.int .i64 ((rd_T71 l0 x5_1).f4))).trans hx112_0; replace hx112_1 := (cell_far (p := ⟨gb111, 4, none⟩) (by first | (rw [add_block]; exact hn112_4) | (show (Addr.add _ _).block ≠ _; rw [add_block]; exact hn112_4) | exact hn112_4) (.int .i64 ((rd_T71 l0 x5_1).f4))).trans hx112_1; replace hx112_2 := (cell_far (p := ⟨gb111, 4, none⟩) (by first | (rw [add_block]; exact hn112_4) | (show (Addr.add _ _).block ≠ _; rw [add_block]; exact hn112_4) | exact hn112_4) (.int .i64 ((rd_T71 l0 x5_1).f4))).trans hx112_2; replace hx112_3 := (cell_far (p := ⟨gb111, 4, none⟩) (by first | (rw [add_block]; exact hn112_4) | (show (Addr.add _ _).block ≠ _; rw [add_block]; exact hn112_4) | exact hn112_4) (.int .i64 ((rd_T71 l0 x5_1).f4))).trans hx112_3; replace hx112_4 := (cell_far (p := ⟨gb111, 4, none⟩) (by first | (rw [add_block]; exact hn112_4) | (show (Addr.add _ _).block ≠ _; rw [add_block]; exact hn112_4) | exact hn112_4) (.int .i64 ((rd_T71 l0 x5_1).f4))).trans hx112_4; (try have hy112_0 := fun (n_ : Nat) => (show (((((((w13.drewN n_).setCell ⟨gb111, 0, none⟩ (.int .i64 ((rd_T71 l0 x5_1).f0))).setCell ⟨gb111, 1, none⟩ (.int .i64 ((rd_T71 l0 x5_1).f1))).setCell ⟨gb111, 2, none⟩ (.slice A110_2 ((rd_T71 l0 x5_1).f2).length c110_2)).setCell ⟨gb111, 3, none⟩ (.int .i64 ((rd_T71 l0 x5_1).f3))).setCell ⟨gb111, 4, none⟩ (.int .i64 ((rd_T71 l0 x5_1).f4)))).cell? _ = some _ from hx112_0)); (try have hy112_1 := fun (n_ : Nat) => (show (((((((w13.drewN n_).setCell ⟨gb111, 0, none⟩ (.int .i64 ((rd_T71 l0 x5_1).f0))).setCell ⟨gb111, 1, none⟩ (.int .i64 ((rd_T71 l0 x5_1).f1))).setCell ⟨gb111, 2, none⟩ (.slice A110_2 ((rd_T71 l0 x5_1).f2).length c110_2)).setCell ⟨gb111, 3, none⟩ (.int .i64 ((rd_T71 l0 x5_1).f3))).setCell ⟨gb111, 4, none⟩ (.int .i64 ((rd_T71 l0 x5_1).f4)))).cell? _ = some _ from hx112_1)); (try have hy112_2 := fun (n_ : Nat) => (show (((((((w13.drewN n_).setCell ⟨gb111, 0, none⟩ (.int .i64 ((rd_T71 l0 x5_1).f0))).setCell ⟨gb111, 1, none⟩ (.int .i64 ((rd_T71 l0 x5_1).f1))).setCell ⟨gb111, 2, none⟩ (.slice A110_2 ((rd_T71 l0 x5_1).f2).length c110_2)).setCell ⟨gb111, 3, none⟩ (.int .i64 ((rd_T71 l0 x5_1).f3))).setCell ⟨gb111, 4, none⟩ (.int .i64 ((rd_T71 l0 x5_1).f4)))).cell? _ = some _ from hx112_2)); (try have hy112_3 := fun (n_ : Nat) => (show (((((((w13.drewN n_).setCell ⟨gb111, 0, none⟩ (.int .i64 ((rd_T71 l0 x5_1).f0))).setCell ⟨gb111, 1, none⟩ (.int .i64 ((rd_T71 l0 x5_1).f1))).setCell ⟨gb111, 2, none⟩ (.slice A110_2 ((rd_T71 l0 x5_1).f2).length c110_2)).setCell ⟨gb111, 3, none⟩ (.int .i64 ((rd_T71 l0 x5_1).f3))).setCell ⟨gb111, 4, none⟩ (.int .i64 ((rd_T71 l0 x5_1).f4)))).cell? _ = some _ from hx112_3)); (try have hy112_4 := fun (n_ : Nat) => (show (((((((w13.drewN n_).setCell ⟨gb111, 0, none⟩ (.int .i64 ((rd_T71 l0 x5_1).f0))).setCell ⟨gb111, 1, none⟩ (.int .i64 ((rd_T71 l0 x5_1).f1))).setCell ⟨gb111, 2, none⟩ (.slice A110_2 ((rd_T71 l0 x5_1).f2).length c110_2)).setCell ⟨gb111, 3, none⟩ (.int .i64 ((rd_T71 l0 x5_1).f3))).setCell ⟨gb111, 4, none⟩ (.int .i64 ((rd_T71 l0 x5_1).f4)))).cell? _ = some _ from hx112_4)); clear hn112_0; clear hn112_1; clear hn112_2; clear hn112_3; clear hn112_4; replace p112 := eq_true p112; replace q112 := eq_true q112) | ((with_reducible refine gate_dst (N := 8) rfl ?_); (try (refine gate_guard (by rfl) ?_; dsimp only)); refine box_event ?hg (N := 8) ?hd (cs := #[.int .i64 0, .int .i64 0, .slice none 0 0, .int .i64 0, .int .i64 0]) (t := 71) ?hr ?_; (case hd => rfl); (case hg => rfl); (case hr => first | (go_simp; done) | (go_simp; rfl)); intro gb113 hg w15 hbox hb; have n0_ := Aside0.mk (blk_below (g := gb111) (o := .cells #[.int .i64 ((rd_T71 l0 x5_1).f0), .int .i64 ((rd_T71 l0 x5_1).f1), .slice A110_2 ((rd_T71 l0 x5_1).f2).length c110_2, .int .i64 ((rd_T71 l0 x5_1).f3), .int .i64 ((rd_T71 l0 x5_1).f4)] 71 (0, 0)) (by (with_reducible repeat (first | refine blk_drewN ?_ _ | refine blk_drew ?_ | refine blk_alloc ?_ _)); refine blk_put (cs := #[.int .i64 ((rd_T71 l0 x5_1).f0), .int .i64 ((rd_T71 l0 x5_1).f1), .slice A110_2 ((rd_T71 l0 x5_1).f2).length c110_2, .int .i64 ((rd_T71 l0 x5_1).f3), .int .i64 0]) ?_ 4 _ rfl; (with_reducible repeat (first | refine blk_drewN ?_ _ | refine blk_drew ?_ | refine blk_alloc ?_ _)); refine blk_put (cs := #[.int .i64 ((rd_T71 l0 x5_1).f0), .int .i64 ((rd_T71 l0 x5_1).f1), .slice A110_2 ((rd_T71 l0 x5_1).f2).length c110_2, .int .i64 0, .int .i64 0]) ?_ 3 _ rfl; (with_reducible repeat (first | refine blk_drewN ?_ _ | refine blk_drew ?_ | refine blk_alloc ?_ _)); refine blk_put (cs := #[.int .i64 ((rd_T71 l0 x5_1).f0), .int .i64 ((rd_T71 l0 x5_1).f1), .slice none 0 0, .int .i64 0, .int .i64 0]) ?_ 2 _ rfl; (with_reducible repeat (first | refine blk_drewN ?_ _ | refine blk_drew ?_ | refine blk_alloc ?_ _)); refine blk_put (cs := #[.int .i64 ((rd_T71 l0 x5_1).f0), .int .i64 0, .slice none 0 0, .int .i64 0, .int .i64 0]) ?_ 1 _ rfl; (with_reducible repeat (first | refine blk_drewN ?_ _ | refine blk_drew ?_ | refine blk_alloc ?_ _)); refine blk_put (cs := #[.int .i64 0, .int .i64 0, .slice none 0 0, .int .i64 0, .int .i64 0]) ?_ 0 _ rfl; (with_reducible repeat (first | refine blk_drewN ?_ _ | refine blk_drew ?_ | refine blk_alloc ?_ _)); exact BK111.out) hb); have n1_ := Aside0.mk (below_step (by repeat (first | (with_reducible first | exact HB.out | apply below_alloc | apply pw_below_drewN | apply below_drew1 | refine below_set ?_ GE111.out) | exact HB.out)) hb); have n2_ := Aside0.mk (hbox); have n3_ := Aside0.mk ((by rw [hg]; exact (below_size (by repeat (first | (with_reducible first | exact HB.out | apply below_alloc | apply pw_below_drewN | apply below_drew1 | refine below_set ?_ GE111.out) | exact HB.out))) : w.heap.size ≤ gb113)); have n4_ := Aside0.mk ((by rw [hg]; exact (below_size (by repeat (first | (with_reducible first | exact HB.out | apply below_alloc | apply pw_below_drewN | apply below_drew1 | refine below_set ?_ GE111.out) | exact HB.out))) : w.heap.size ≤ gb113)); have n5_ := Aside0.mk ((by rw [hg]; exact Nat.ne_of_lt (blk_lt (g := gb111) (o := .cells #[.int .i64 ((rd_T71 l0 x5_1).f0), .int .i64 ((rd_T71 l0 x5_1).f1), .slice A110_2 ((rd_T71 l0 x5_1).f2).length c110_2, .int .i64 ((rd_T71 l0 x5_1).f3), .int .i64 ((rd_T71 l0 x5_1).f4)] 71 (0, 0)) (by (with_reducible repeat (first | refine blk_drewN ?_ _ | refine blk_drew ?_ | refine blk_alloc ?_ _)); refine blk_put (cs := #[.int .i64 ((rd_T71 l0 x5_1).f0), .int .i64 ((rd_T71 l0 x5_1).f1), .slice A110_2 ((rd_T71 l0 x5_1).f2).length c110_2, .int .i64 ((rd_T71 l0 x5_1).f3), .int .i64 0]) ?_ 4 _ rfl; (with_reducible repeat (first | refine blk_drewN ?_ _ | refine blk_drew ?_ | refine blk_alloc ?_ _)); refine blk_put (cs := #[.int .i64 ((rd_T71 l0 x5_1).f0), .int .i64 ((rd_T71 l0 x5_1).f1), .slice A110_2 ((rd_T71 l0 x5_1).f2).length c110_2, .int .i64 0, .int .i64 0]) ?_ 3 _ rfl; (with_reducible repeat (first | refine blk_drewN ?_ _ | refine blk_drew ?_ | refine blk_alloc ?_ _)); refine blk_put (cs := #[.int .i64 ((rd_T71 l0 x5_1).f0), .int .i64 ((rd_T71 l0 x5_1).f1), .slice none 0 0, .int .i64 0, .int .i64 0]) ?_ 2 _ rfl; (with_reducible repeat (first | refine blk_drewN ?_ _ | refine blk_drew ?_ | refine blk_alloc ?_ _)); refine blk_put (cs := #[.int .i64 ((rd_T71 l0 x5_1).f0), .int .i64 0, .slice none 0 0, .int .i64 0, .int .i64 0]) ?_ 1 _ rfl; (with_reducible repeat (first | refine blk_drewN ?_ _ | refine blk_drew ?_ | refine blk_alloc ?_ _)); refine blk_put (cs := #[.int .i64 0, .int .i64 0, .slice none 0 0, .int .i64 0, .int .i64 0]) ?_ 0 _ rfl; (with_reducible repeat (first | refine blk_drewN ?_ _ | refine blk_drew ?_ | refine blk_alloc ?_ _)); exact BK111.out)) : gb111 ≠ gb113)); have n6_ := Aside0.mk ((by rw [hg]; exact Nat.ne_of_gt (blk_lt (g := gb111) (o := .cells #[.int .i64 ((rd_T71 l0 x5_1).f0), .int .i64 ((rd_T71 l0 x5_1).f1), .slice A110_2 ((rd_T71 l0 x5_1).f2).length c110_2, .int .i64 ((rd_T71 l0 x5_1).f3), .int .i64 ((rd_T71 l0 x5_1).f4)] 71 (0, 0)) (by (with_reducible repeat (first | refine blk_drewN ?_ _ | refine blk_drew ?_ | refine blk_alloc ?_ _)); refine blk_put (cs := #[.int .i64 ((rd_T71 l0 x5_1).f0), .int .i64 ((rd_T71 l0 x5_1).f1), .slice A110_2 ((rd_T71 l0 x5_1).f2).length c110_2, .int .i64 ((rd_T71 l0 x5_1).f3), .int .i64 0]) ?_ 4 _ rfl; (with_reducible repeat (first | refine blk_drewN ?_ _ | refine blk_drew ?_ | refine blk_alloc ?_ _)); refine blk_put (cs := #[.int .i64 ((rd_T71 l0 x5_1).f0), .int .i64 ((rd_T71 l0 x5_1).f1), .slice A110_2 ((rd_T71 l0 x5_1).f2).length c110_2, .int .i64 0, .int .i64 0]) ?_ 3 _ rfl; (with_reducible repeat (first | refine blk_drewN ?_ _ | refine blk_drew ?_ | refine blk_alloc ?_ _)); refine blk_put (cs := #[.int .i64 ((rd_T71 l0 x5_1).f0), .int .i64 ((rd_T71 l0 x5_1).f1), .slice none 0 0, .int .i64 0, .int .i64 0]) ?_ 2 _ rfl; (with_reducible repeat (first | refine blk_drewN ?_ _ | refine blk_drew ?_ | refine blk_alloc ?_ _)); refine blk_put (cs := #[.int .i64 ((rd_T71 l0 x5_1).f0), .int .i64 0, .slice none 0 0, .int .i64 0, .int .i64 0]) ?_ 1 _ rfl; (with_reducible repeat (first | refine blk_drewN ?_ _ | refine blk_drew ?_ | refine blk_alloc ?_ _)); refine blk_put (cs := #[.int .i64 0, .int .i64 0, .slice none 0 0, .int .i64 0, .int .i64 0]) ?_ 0 _ rfl; (with_reducible repeat (first | refine blk_drewN ?_ _ | refine blk_drew ?_ | refine blk_alloc ?_ _)); exact BK111.out)) : gb113 ≠ gb111)); clear BK111; clear HB; have BK111 := n0_; have HB := n1_; have BK113 := n2_; have GW113 := n3_; have GE113 := n4_; have NB111_113 := n5_; have NB113_111 := n6_; clear n0_ n1_ n2_ n3_ n4_ n5_ n6_; clear hb hbox hg; have hnb16 := NB113_111.out; have hnc16 := NB111_113.out; have hcz17_0 : w15.cell? ⟨gb113, 0, none⟩ = some (.int .i64 0) := (blk_cell BK113.out 0).trans rfl; have hcz17_1 : w15.cell? ⟨gb113, 1, none⟩ = some (.int .i64 0) := (blk_cell BK113.out 1).trans rfl; have hcz17_2 : w15.cell? ⟨gb113, 2, none⟩ = some (.slice none 0 0) := (blk_cell BK113.out 2).trans rfl; have hcz17_3 : w15.cell? ⟨gb113, 3, none⟩ = some (.int .i64 0) := (blk_cell BK113.out 3).trans rfl; have hcz17_4 : w15.cell? ⟨gb113, 4, none⟩ = some (.int .i64 0) := (blk_cell BK113.out 4).trans rfl; have hfz17_0 := blk_frozen BK113.out 0; have hfz17_1 := blk_frozen BK113.out 1; have hfz17_2 := blk_frozen BK113.out 2; have hfz17_3 := blk_frozen BK113.out 3; have hfz17_4 := blk_frozen BK113.out 4))
                            repeat (go_quiet (first | ((with_reducible refine gate_dst (N := 7) rfl ?_); (try (refine gate_guard (by rfl) ?_; dsimp only)); refine box_event ?hg (N := 7) ?hd (cs := #[.int .i64 0, .int .i64 0, .slice none 0 0, .int .i64 0, .int .i64 0]) (t := 71) ?hr ?_; (case hd => rfl); (case hg => rfl); (case hr => first | (go_simp; done) | (go_simp; rfl)); intro gb111 hg w13 hbox hb; have n0_ := Aside0.mk (below_step (by repeat (first | (with_reducible first | exact HB.out | apply below_alloc | apply pw_below_drewN | apply below_drew1) | exact HB.out)) hb); have n1_ := Aside0.mk (hbox); have n2_ := Aside0.mk ((by rw [hg]; exact (below_size (by repeat (first | (with_reducible first | exact HB.out | apply below_alloc | apply pw_below_drewN | apply below_drew1) | exact HB.out))) : w.heap.size ≤ gb111)); have n3_ := Aside0.mk ((by rw [hg]; exact (below_size (by repeat (first | (with_reducible first | exact HB.out | apply below_alloc | apply pw_below_drewN | apply below_drew1) | exact HB.out))) : w.heap.size ≤ gb111)); clear HB; have HB := n0_; have BK111 := n1_; have GW111 := n2_; have GE111 := n3_; clear n0_ n1_ n2_ n3_; clear hb hbox hg; have hcz14_0 : w13.cell? ⟨gb111, 0, none⟩ = some (.int .i64 0) := (blk_cell BK111.out 0).trans rfl; have hcz14_1 : w13.cell? ⟨gb111, 1, none⟩ = some (.int .i64 0) := (blk_cell BK111.out 1).trans rfl; have hcz14_2 : w13.cell? ⟨gb111, 2, none⟩ = some (.slice none 0 0) := (blk_cell BK111.out 2).trans rfl; have hcz14_3 : w13.cell? ⟨gb111, 3, none⟩ = some (.int .i64 0) := (blk_cell BK111.out 3).trans rfl; have hcz14_4 : w13.cell? ⟨gb111, 4, none⟩ = some (.int .i64 0) := (blk_cell BK111.out 4).trans rfl; have hfz14_0 := blk_frozen BK111.out 0; have hfz14_1 := blk_frozen BK111.out 1; have hfz14_2 := blk_frozen BK111.out 2; have hfz14_3 := blk_frozen BK111.out 3; have hfz14_4 := blk_frozen BK111.out 4; have p112 : 0 ≤ (x6_2 : Int) := of_decide_eq_true (by first | (with_reducible assumption) | assumption); have q112 : x6_2 < (l0.length : Int) := of_decide_eq_true (by first | (with_reducible assumption) | assumption); obtain ⟨ad112, A112_2, c112_2, e112, hx112_0, hx112_1, hx112_2, hx112_3, hx112_4, hl112_2, hi112_2⟩ := at_T71 HR0.out x6_2 p112 q112; obtain rfl : ad110 = ad112 := (by injection e112); have hn112_0 : ad110.block ≠ gb111 := Nat.ne_of_lt (Nat.lt_of_lt_of_le (by have := World.block_lt_of_cell? _ _ hx112_0; first | rwa [add_block] at this | exact this) GW111.out); have hn112_1 : ad110.block ≠ gb111 := Nat.ne_of_lt (Nat.lt_of_lt_of_le (by have := World.block_lt_of_cell? _ _ hx112_0; first | rwa [add_block] at this | exact this) GW111.out); have hn112_2 : ad110.block ≠ gb111 := Nat.ne_of_lt (Nat.lt_of_lt_of_le (by have := World.block_lt_of_cell? _ _ hx112_0; first | rwa [add_block] at this | exact this) GW111.out); have hn112_3 : ad110.block ≠ gb111 := Nat.ne_of_lt (Nat.lt_of_lt_of_le (by have := World.block_lt_of_cell? _ _ hx112_0; first | rwa [add_block] at this | exact this) GW111.out); have hn112_4 : ad110.block ≠ gb111 := Nat.ne_of_lt (Nat.lt_of_lt_of_le (by have := World.block_lt_of_cell? _ _ hx112_0; first | rwa [add_block] at this | exact this) GW111.out); replace hx112_0 := (HB.out.cell (World.block_lt_of_cell? w _ hx112_0)).trans hx112_0; replace hx112_1 := (HB.out.cell (World.block_lt_of_cell? w _ hx112_1)).trans hx112_1; replace hx112_2 := (HB.out.cell (World.block_lt_of_cell? w _ hx112_2)).trans hx112_2; replace hx112_3 := (HB.out.cell (World.block_lt_of_cell? w _ hx112_3)).trans hx112_3; replace hx112_4 := (HB.out.cell (World.block_lt_of_cell? w _ hx112_4)).trans hx112_4; have HR112_2 := Aside0.mk hi112_2; have HC112_2 := Aside0.mk hl112_2; clear hi112_2 hl112_2; replace hx112_0 := (cell_far (p := ⟨gb111, 0, none⟩) (by first | (rw [add_block]; exact hn112_0) | (show (Addr.add _ _).block ≠ _; rw [add_block]; exact hn112_0) | exact hn112_0) (.int .i64 ((rd_T71 l0 x5_1).f0))).trans hx112_0; replace hx112_1 := (cell_far (p := ⟨gb111, 0, none⟩) (by first | (rw [add_block]; exact hn112_0) | (show (Addr.add _ _).block ≠ _; rw [add_block]; exact hn112_0) | exact hn112_0) (.int .i64 ((rd_T71 l0 x5_1).f0))).trans hx112_1; replace hx112_2 := (cell_far (p := ⟨gb111, 0, none⟩) (by first | (rw [add_block]; exact hn112_0) | (show (Addr.add _ _).block ≠ _; rw [add_block]; exact hn112_0) | exact hn112_0) (.int .i64 ((rd_T71 l0 x5_1).f0))).trans hx112_2; replace hx112_3 := (cell_far (p := ⟨gb111, 0, none⟩) (by first | (rw [add_block]; exact hn112_0) | (show (Addr.add _ _).block ≠ _; rw [add_block]; exact hn112_0) | exact hn112_0) (.int .i64 ((rd_T71 l0 x5_1).f0))).trans hx112_3; replace hx112_4 := (cell_far (p := ⟨gb111, 0, none⟩) (by first | (rw [add_block]; exact hn112_0) | (show (Addr.add _ _).block ≠ _; rw [add_block]; exact hn112_0) | exact hn112_0) (.int .i64 ((rd_T71 l0 x5_1).f0))).trans hx112_4; replace hx112_0 := (cell_far (p := ⟨gb111, 1, none⟩) (by first | (rw [add_block]; exact hn112_1) | (show (Addr.add _ _).block ≠ _; rw [add_block]; exact hn112_1) | exact hn112_1) (.int .i64 ((rd_T71 l0 x5_1).f1))).trans hx112_0; replace hx112_1 := (cell_far (p := ⟨gb111, 1, none⟩) (by first | (rw [add_block]; exact hn112_1) | (show (Addr.add _ _).block ≠ _; rw [add_block]; exact hn112_1) | exact hn112_1) (.int .i64 ((rd_T71 l0 x5_1).f1))).trans hx112_1; replace hx112_2 := (cell_far (p := ⟨gb111, 1, none⟩) (by first | (rw [add_block]; exact hn112_1) | (show (Addr.add _ _).block ≠ _; rw [add_block]; exact hn112_1) | exact hn112_1) (.int .i64 ((rd_T71 l0 x5_1).f1))).trans hx112_2; replace hx112_3 := (cell_far (p := ⟨gb111, 1, none⟩) (by first | (rw [add_block]; exact hn112_1) | (show (Addr.add _ _).block ≠ _; rw [add_block]; exact hn112_1) | exact hn112_1) (.int .i64 ((rd_T71 l0 x5_1).f1))).trans hx112_3; replace hx112_4 := (cell_far (p := ⟨gb111, 1, none⟩) (by first | (rw [add_block]; exact hn112_1) | (show (Addr.add _ _).block ≠ _; rw [add_block]; exact hn112_1) | exact hn112_1) (.int .i64 ((rd_T71 l0 x5_1).f1))).trans hx112_4; replace hx112_0 := (cell_far (p := ⟨gb111, 2, none⟩) (by first | (rw [add_block]; exact hn112_2) | (show (Addr.add _ _).block ≠ _; rw [add_block]; exact hn112_2) | exact hn112_2) (.slice A110_2 ((rd_T71 l0 x5_1).f2).length c110_2)).trans hx112_0; replace hx112_1 := (cell_far (p := ⟨gb111, 2, none⟩) (by first | (rw [add_block]; exact hn112_2) | (show (Addr.add _ _).block ≠ _; rw [add_block]; exact hn112_2) | exact hn112_2) (.slice A110_2 ((rd_T71 l0 x5_1).f2).length c110_2)).trans hx112_1; replace hx112_2 := (cell_far (p := ⟨gb111, 2, none⟩) (by first | (rw [add_block]; exact hn112_2) | (show (Addr.add _ _).block ≠ _; rw [add_block]; exact hn112_2) | exact hn112_2) (.slice A110_2 ((rd_T71 l0 x5_1).f2).length c110_2)).trans hx112_2; replace hx112_3 := (cell_far (p := ⟨gb111, 2, none⟩) (by first | (rw [add_block]; exact hn112_2) | (show (Addr.add _ _).block ≠ _; rw [add_block]; exact hn112_2) | exact hn112_2) (.slice A110_2 ((rd_T71 l0 x5_1).f2).length c110_2)).trans hx112_3; replace hx112_4 := (cell_far (p := ⟨gb111, 2, none⟩) (by first | (rw [add_block]; exact hn112_2) | (show (Addr.add _ _).block ≠ _; rw [add_block]; exact hn112_2) | exact hn112_2) (.slice A110_2 ((rd_T71 l0 x5_1).f2).length c110_2)).trans hx112_4; replace hx112_0 := (cell_far (p := ⟨gb111, 3, none⟩) (by first | (rw [add_block]; exact hn112_3) | (show (Addr.add _ _).block ≠ _; rw [add_block]; exact hn112_3) | exact hn112_3) (.int .i64 ((rd_T71 l0 x5_1).f3))).trans hx112_0; replace hx112_1 := (cell_far (p := ⟨gb111, 3, none⟩) (by first | (rw [add_block]; exact hn112_3) | (show (Addr.add _ _).block ≠ _; rw [add_block]; exact hn112_3) | exact hn112_3) (.int .i64 ((rd_T71 l0 x5_1).f3))).trans hx112_1; replace hx112_2 := (cell_far (p := ⟨gb111, 3, none⟩) (by first | (rw [add_block]; exact hn112_3) | (show (Addr.add _ _).block ≠ _; rw [add_block]; exact hn112_3) | exact hn112_3) (.int .i64 ((rd_T71 l0 x5_1).f3))).trans hx112_2; replace hx112_3 := (cell_far (p := ⟨gb111, 3, none⟩) (by first | (rw [add_block]; exact hn112_3) | (show (Addr.add _ _).block ≠ _; rw [add_block]; exact hn112_3) | exact hn112_3) (.int .i64 ((rd_T71 l0 x5_1).f3))).trans hx112_3; replace hx112_4 := (cell_far (p := ⟨gb111, 3, none⟩) (by first | (rw [add_block]; exact hn112_3) | (show (Addr.add _ _).block ≠ _; rw [add_block]; exact hn112_3) | exact hn112_3) (.int .i64 ((rd_T71 l0 x5_1).f3))).trans hx112_4; replace hx112_0 := (cell_far (p := ⟨gb111, 4, none⟩) (by first | (rw [add_block]; exact hn112_4) | (show (Addr.add _ _).block ≠ _; rw [add_block]; exact hn112_4) | exact hn112_4) (.int .i64 ((rd_T71 l0 x5_1).f4))).trans hx112_0; replace hx112_1 := (cell_far (p := ⟨gb111, 4, none⟩) (by first | (rw [add_block]; exact hn112_4) | (show (Addr.add _ _).block ≠ _; rw [add_block]; exact hn112_4) | exact hn112_4) (.int .i64 ((rd_T71 l0 x5_1).f4))).trans hx112_1; replace hx112_2 := (cell_far (p := ⟨gb111, 4, none⟩) (by first | (rw [add_block]; exact hn112_4) | (show (Addr.add _ _).block ≠ _; rw [add_block]; exact hn112_4) | exact hn112_4) (.int .i64 ((rd_T71 l0 x5_1).f4))).trans hx112_2; replace hx112_3 := (cell_far (p := ⟨gb111, 4, none⟩) (by first | (rw [add_block]; exact hn112_4) | (show (Addr.add _ _).block ≠ _; rw [add_block]; exact hn112_4) | exact hn112_4) (.int .i64 ((rd_T71 l0 x5_1).f4))).trans hx112_3; replace hx112_4 := (cell_far (p := ⟨gb111, 4, none⟩) (by first | (rw [add_block]; exact hn112_4) | (show (Addr.add _ _).block ≠ _; rw [add_block]; exact hn112_4) | exact hn112_4) (.int .i64 ((rd_T71 l0 x5_1).f4))).trans hx112_4; (try have hy112_0 := fun (n_ : Nat) => (show (((((((w13.drewN n_).setCell ⟨gb111, 0, none⟩ (.int .i64 ((rd_T71 l0 x5_1).f0))).setCell ⟨gb111, 1, none⟩ (.int .i64 ((rd_T71 l0 x5_1).f1))).setCell ⟨gb111, 2, none⟩ (.slice A110_2 ((rd_T71 l0 x5_1).f2).length c110_2)).setCell ⟨gb111, 3, none⟩ (.int .i64 ((rd_T71 l0 x5_1).f3))).setCell ⟨gb111, 4, none⟩ (.int .i64 ((rd_T71 l0 x5_1).f4)))).cell? _ = some _ from hx112_0)); (try have hy112_1 := fun (n_ : Nat) => (show (((((((w13.drewN n_).setCell ⟨gb111, 0, none⟩ (.int .i64 ((rd_T71 l0 x5_1).f0))).setCell ⟨gb111, 1, none⟩ (.int .i64 ((rd_T71 l0 x5_1).f1))).setCell ⟨gb111, 2, none⟩ (.slice A110_2 ((rd_T71 l0 x5_1).f2).length c110_2)).setCell ⟨gb111, 3, none⟩ (.int .i64 ((rd_T71 l0 x5_1).f3))).setCell ⟨gb111, 4, none⟩ (.int .i64 ((rd_T71 l0 x5_1).f4)))).cell? _ = some _ from hx112_1)); (try have hy112_2 := fun (n_ : Nat) => (show (((((((w13.drewN n_).setCell ⟨gb111, 0, none⟩ (.int .i64 ((rd_T71 l0 x5_1).f0))).setCell ⟨gb111, 1, none⟩ (.int .i64 ((rd_T71 l0 x5_1).f1))).setCell ⟨gb111, 2, none⟩ (.slice A110_2 ((rd_T71 l0 x5_1).f2).length c110_2)).setCell ⟨gb111, 3, none⟩ (.int .i64 ((rd_T71 l0 x5_1).f3))).setCell ⟨gb111, 4, none⟩ (.int .i64 ((rd_T71 l0 x5_1).f4)))).cell? _ = some _ from hx112_2)); (try have hy112_3 := fun (n_ : Nat) => (show (((((((w13.drewN n_).setCell ⟨gb111, 0, none⟩ (.int .i64 ((rd_T71 l0 x5_1).f0))).setCell ⟨gb111, 1, none⟩ (.int .i64 ((rd_T71 l0 x5_1).f1))).setCell ⟨gb111, 2, none⟩ (.slice A110_2 ((rd_T71 l0 x5_1).f2).length c110_2)).setCell ⟨gb111, 3, none⟩ (.int .i64 ((rd_T71 l0 x5_1).f3))).setCell ⟨gb111, 4, none⟩ (.int .i64 ((rd_T71 l0 x5_1).f4)))).cell? _ = some _ from hx112_3)); (try have hy112_4 := fun (n_ : Nat) => (show (((((((w13.drewN n_).setCell ⟨gb111, 0, none⟩ (.int .i64 ((rd_T71 l0 x5_1).f0))).setCell ⟨gb111, 1, none⟩ (.int .i64 ((rd_T71 l0 x5_1).f1))).setCell ⟨gb111, 2, none⟩ (.slice A110_2 ((rd_T71 l0 x5_1).f2).length c110_2)).setCell ⟨gb111, 3, none⟩ (.int .i64 ((rd_T71 l0 x5_1).f3))).setCell ⟨gb111, 4, none⟩ (.int .i64 ((rd_T71 l0 x5_1).f4)))).cell? _ = some _ from hx112_4)); clear hn112_0; clear hn112_1; clear hn112_2; clear hn112_3; clear hn112_4; replace p112 := eq_true p112; replace q112 := eq_true q112) | ((with_reducible refine gate_dst (N := 8) rfl ?_); (try (refine gate_guard (by rfl) ?_; dsimp only)); refine box_event ?hg (N := 8) ?hd (cs := #[.int .i64 0, .int .i64 0, .slice none 0 0, .int .i64 0, .int .i64 0]) (t := 71) ?hr ?_; (case hd => rfl); (case hg => rfl); (case hr => first | (go_simp; done) | (go_simp; rfl)); intro gb113 hg w15 hbox hb; have n0_ := Aside0.mk (blk_below (g := gb111) (o := .cells #[.int .i64 ((rd_T71 l0 x5_1).f0), .int .i64 ((rd_T71 l0 x5_1).f1), .slice A110_2 ((rd_T71 l0 x5_1).f2).length c110_2, .int .i64 ((rd_T71 l0 x5_1).f3), .int .i64 ((rd_T71 l0 x5_1).f4)] 71 (0, 0)) (by (with_reducible repeat (first | refine blk_drewN ?_ _ | refine blk_drew ?_ | refine blk_alloc ?_ _)); refine blk_put (cs := #[.int .i64 ((rd_T71 l0 x5_1).f0), .int .i64 ((rd_T71 l0 x5_1).f1), .slice A110_2 ((rd_T71 l0 x5_1).f2).length c110_2, .int .i64 ((rd_T71 l0 x5_1).f3), .int .i64 0]) ?_ 4 _ rfl; (with_reducible repeat (first | refine blk_drewN ?_ _ | refine blk_drew ?_ | refine blk_alloc ?_ _)); refine blk_put (cs := #[.int .i64 ((rd_T71 l0 x5_1).f0), .int .i64 ((rd_T71 l0 x5_1).f1), .slice A110_2 ((rd_T71 l0 x5_1).f2).length c110_2, .int .i64 0, .int .i64 0]) ?_ 3 _ rfl; (with_reducible repeat (first | refine blk_drewN ?_ _ | refine blk_drew ?_ | refine blk_alloc ?_ _)); refine blk_put (cs := #[.int .i64 ((rd_T71 l0 x5_1).f0), .int .i64 ((rd_T71 l0 x5_1).f1), .slice none 0 0, .int .i64 0, .int .i64 0]) ?_ 2 _ rfl; (with_reducible repeat (first | refine blk_drewN ?_ _ | refine blk_drew ?_ | refine blk_alloc ?_ _)); refine blk_put (cs := #[.int .i64 ((rd_T71 l0 x5_1).f0), .int .i64 0, .slice none 0 0, .int .i64 0, .int .i64 0]) ?_ 1 _ rfl; (with_reducible repeat (first | refine blk_drewN ?_ _ | refine blk_drew ?_ | refine blk_alloc ?_ _)); refine blk_put (cs := #[.int .i64 0, .int .i64 0, .slice none 0 0, .int .i64 0, .int .i64 0]) ?_ 0 _ rfl; (with_reducible repeat (first | refine blk_drewN ?_ _ | refine blk_drew ?_ | refine blk_alloc ?_ _)); exact BK111.out) hb); have n1_ := Aside0.mk (below_step (by repeat (first | (with_reducible first | exact HB.out | apply below_alloc | apply pw_below_drewN | apply below_drew1 | refine below_set ?_ GE111.out) | exact HB.out)) hb); have n2_ := Aside0.mk (hbox); have n3_ := Aside0.mk ((by rw [hg]; exact (below_size (by repeat (first | (with_reducible first | exact HB.out | apply below_alloc | apply pw_below_drewN | apply below_drew1 | refine below_set ?_ GE111.out) | exact HB.out))) : w.heap.size ≤ gb113)); have n4_ := Aside0.mk ((by rw [hg]; exact (below_size (by repeat (first | (with_reducible first | exact HB.out | apply below_alloc | apply pw_below_drewN | apply below_drew1 | refine below_set ?_ GE111.out) | exact HB.out))) : w.heap.size ≤ gb113)); have n5_ := Aside0.mk ((by rw [hg]; exact Nat.ne_of_lt (blk_lt (g := gb111) (o := .cells #[.int .i64 ((rd_T71 l0 x5_1).f0), .int .i64 ((rd_T71 l0 x5_1).f1), .slice A110_2 ((rd_T71 l0 x5_1).f2).length c110_2, .int .i64 ((rd_T71 l0 x5_1).f3), .int .i64 ((rd_T71 l0 x5_1).f4)] 71 (0, 0)) (by (with_reducible repeat (first | refine blk_drewN ?_ _ | refine blk_drew ?_ | refine blk_alloc ?_ _)); refine blk_put (cs := #[.int .i64 ((rd_T71 l0 x5_1).f0), .int .i64 ((rd_T71 l0 x5_1).f1), .slice A110_2 ((rd_T71 l0 x5_1).f2).length c110_2, .int .i64 ((rd_T71 l0 x5_1).f3), .int .i64 0]) ?_ 4 _ rfl; (with_reducible repeat (first | refine blk_drewN ?_ _ | refine blk_drew ?_ | refine blk_alloc ?_ _)); refine blk_put (cs := #[.int .i64 ((rd_T71 l0 x5_1).f0), .int .i64 ((rd_T71 l0 x5_1).f1), .slice A110_2 ((rd_T71 l0 x5_1).f2).length c110_2, .int .i64 0, .int .i64 0]) ?_ 3 _ rfl; (with_reducible repeat (first | refine blk_drewN ?_ _ | refine blk_drew ?_ | refine blk_alloc ?_ _)); refine blk_put (cs := #[.int .i64 ((rd_T71 l0 x5_1).f0), .int .i64 ((rd_T71 l0 x5_1).f1), .slice none 0 0, .int .i64 0, .int .i64 0]) ?_ 2 _ rfl; (with_reducible repeat (first | refine blk_drewN ?_ _ | refine blk_drew ?_ | refine blk_alloc ?_ _)); refine blk_put (cs := #[.int .i64 ((rd_T71 l0 x5_1).f0), .int .i64 0, .slice none 0 0, .int .i64 0, .int .i64 0]) ?_ 1 _ rfl; (with_reducible repeat (first | refine blk_drewN ?_ _ | refine blk_drew ?_ | refine blk_alloc ?_ _)); refine blk_put (cs := #[.int .i64 0, .int .i64 0, .slice none 0 0, .int .i64 0, .int .i64 0]) ?_ 0 _ rfl; (with_reducible repeat (first | refine blk_drewN ?_ _ | refine blk_drew ?_ | refine blk_alloc ?_ _)); exact BK111.out)) : gb111 ≠ gb113)); have n6_ := Aside0.mk ((by rw [hg]; exact Nat.ne_of_gt (blk_lt (g := gb111) (o := .cells #[.int .i64 ((rd_T71 l0 x5_1).f0), .int .i64 ((rd_T71 l0 x5_1).f1), .slice A110_2 ((rd_T71 l0 x5_1).f2).length c110_2, .int .i64 ((rd_T71 l0 x5_1).f3), .int .i64 ((rd_T71 l0 x5_1).f4)] 71 (0, 0)) (by (with_reducible repeat (first | refine blk_drewN ?_ _ | refine blk_drew ?_ | refine blk_alloc ?_ _)); refine blk_put (cs := #[.int .i64 ((rd_T71 l0 x5_1).f0), .int .i64 ((rd_T71 l0 x5_1).f1), .slice A110_2 ((rd_T71 l0 x5_1).f2).length c110_2, .int .i64 ((rd_T71 l0 x5_1).f3), .int .i64 0]) ?_ 4 _ rfl; (with_reducible repeat (first | refine blk_drewN ?_ _ | refine blk_drew ?_ | refine blk_alloc ?_ _)); refine blk_put (cs := #[.int .i64 ((rd_T71 l0 x5_1).f0), .int .i64 ((rd_T71 l0 x5_1).f1), .slice A110_2 ((rd_T71 l0 x5_1).f2).length c110_2, .int .i64 0, .int .i64 0]) ?_ 3 _ rfl; (with_reducible repeat (first | refine blk_drewN ?_ _ | refine blk_drew ?_ | refine blk_alloc ?_ _)); refine blk_put (cs := #[.int .i64 ((rd_T71 l0 x5_1).f0), .int .i64 ((rd_T71 l0 x5_1).f1), .slice none 0 0, .int .i64 0, .int .i64 0]) ?_ 2 _ rfl; (with_reducible repeat (first | refine blk_drewN ?_ _ | refine blk_drew ?_ | refine blk_alloc ?_ _)); refine blk_put (cs := #[.int .i64 ((rd_T71 l0 x5_1).f0), .int .i64 0, .slice none 0 0, .int .i64 0, .int .i64 0]) ?_ 1 _ rfl; (with_reducible repeat (first | refine blk_drewN ?_ _ | refine blk_drew ?_ | refine blk_alloc ?_ _)); refine blk_put (cs := #[.int .i64 0, .int .i64 0, .slice none 0 0, .int .i64 0, .int .i64 0]) ?_ 0 _ rfl; (with_reducible repeat (first | refine blk_drewN ?_ _ | refine blk_drew ?_ | refine blk_alloc ?_ _)); exact BK111.out)) : gb113 ≠ gb111)); clear BK111; clear HB; have BK111 := n0_; have HB := n1_; have BK113 := n2_; have GW113 := n3_; have GE113 := n4_; have NB111_113 := n5_; have NB113_111 := n6_; clear n0_ n1_ n2_ n3_ n4_ n5_ n6_; clear hb hbox hg; have hnb16 := NB113_111.out; have hnc16 := NB111_113.out; have hcz17_0 : w15.cell? ⟨gb113, 0, none⟩ = some (.int .i64 0) := (blk_cell BK113.out 0).trans rfl; have hcz17_1 : w15.cell? ⟨gb113, 1, none⟩ = some (.int .i64 0) := (blk_cell BK113.out 1).trans rfl; have hcz17_2 : w15.cell? ⟨gb113, 2, none⟩ = some (.slice none 0 0) := (blk_cell BK113.out 2).trans rfl; have hcz17_3 : w15.cell? ⟨gb113, 3, none⟩ = some (.int .i64 0) := (blk_cell BK113.out 3).trans rfl; have hcz17_4 : w15.cell? ⟨gb113, 4, none⟩ = some (.int .i64 0) := (blk_cell BK113.out 4).trans rfl; have hfz17_0 := blk_frozen BK113.out 0; have hfz17_1 := blk_frozen BK113.out 1; have hfz17_2 := blk_frozen BK113.out 2; have hfz17_3 := blk_frozen BK113.out 3; have hfz17_4 := blk_frozen BK113.out 4)); go_upto_region 13 with (first | ((with_reducible refine gate_dst (N := 7) rfl ?_); (try (refine gate_guard (by rfl) ?_; dsimp only)); refine box_event ?hg (N := 7) ?hd (cs := #[.int .i64 0, .int .i64 0, .slice none 0 0, .int .i64 0, .int .i64 0]) (t := 71) ?hr ?_; (case hd => rfl); (case hg => rfl); (case hr => first | (go_simp; done) | (go_simp; rfl)); intro gb111 hg w13 hbox hb; have n0_ := Aside0.mk (below_step (by repeat (first | (with_reducible first | exact HB.out | apply below_alloc | apply pw_below_drewN | apply below_drew1) | exact HB.out)) hb); have n1_ := Aside0.mk (hbox); have n2_ := Aside0.mk ((by rw [hg]; exact (below_size (by repeat (first | (with_reducible first | exact HB.out | apply below_alloc | apply pw_below_drewN | apply below_drew1) | exact HB.out))) : w.heap.size ≤ gb111)); have n3_ := Aside0.mk ((by rw [hg]; exact (below_size (by repeat (first | (with_reducible first | exact HB.out | apply below_alloc | apply pw_below_drewN | apply below_drew1) | exact HB.out))) : w.heap.size ≤ gb111)); clear HB; have HB := n0_; have BK111 := n1_; have GW111 := n2_; have GE111 := n3_; clear n0_ n1_ n2_ n3_; clear hb hbox hg; have hcz14_0 : w13.cell? ⟨gb111, 0, none⟩ = some (.int .i64 0) := (blk_cell BK111.out 0).trans rfl; have hcz14_1 : w13.cell? ⟨gb111, 1, none⟩ = some (.int .i64 0) := (blk_cell BK111.out 1).trans rfl; have hcz14_2 : w13.cell? ⟨gb111, 2, none⟩ = some (.slice none 0 0) := (blk_cell BK111.out 2).trans rfl; have hcz14_3 : w13.cell? ⟨gb111, 3, none⟩ = some (.int .i64 0) := (blk_cell BK111.out 3).trans rfl; have hcz14_4 : w13.cell? ⟨gb111, 4, none⟩ = some (.int .i64 0) := (blk_cell BK111.out 4).trans rfl; have hfz14_0 := blk_frozen BK111.out 0; have hfz14_1 := blk_frozen BK111.out 1; have hfz14_2 := blk_frozen BK111.out 2; have hfz14_3 := blk_frozen BK111.out 3; have hfz14_4 := blk_frozen BK111.out 4; have p112 : 0 ≤ (x6_2 : Int) := of_decide_eq_true (by first | (with_reducible assumption) | assumption); have q112 : x6_2 < (l0.length : Int) := of_decide_eq_true (by first | (with_reducible assumption) | assumption); obtain ⟨ad112, A112_2, c112_2, e112, hx112_0, hx112_1, hx112_2, hx112_3, hx112_4, hl112_2, hi112_2⟩ := at_T71 HR0.out x6_2 p112 q112; obtain rfl : ad110 = ad112 := (by injection e112); have hn112_0 : ad110.block ≠ gb111 := Nat.ne_of_lt (Nat.lt_of_lt_of_le (by have := World.block_lt_of_cell? _ _ hx112_0; first | rwa [add_block] at this | exact this) GW111.out); have hn112_1 : ad110.block ≠ gb111 := Nat.ne_of_lt (Nat.lt_of_lt_of_le (by have := World.block_lt_of_cell? _ _ hx112_0; first | rwa [add_block] at this | exact this) GW111.out); have hn112_2 : ad110.block ≠ gb111 := Nat.ne_of_lt (Nat.lt_of_lt_of_le (by have := World.block_lt_of_cell? _ _ hx112_0; first | rwa [add_block] at this | exact this) GW111.out); have hn112_3 : ad110.block ≠ gb111 := Nat.ne_of_lt (Nat.lt_of_lt_of_le (by have := World.block_lt_of_cell? _ _ hx112_0; first | rwa [add_block] at this | exact this) GW111.out); have hn112_4 : ad110.block ≠ gb111 := Nat.ne_of_lt (Nat.lt_of_lt_of_le (by have := World.block_lt_of_cell? _ _ hx112_0; first | rwa [add_block] at this | exact this) GW111.out); replace hx112_0 := (HB.out.cell (World.block_lt_of_cell? w _ hx112_0)).trans hx112_0; replace hx112_1 := (HB.out.cell (World.block_lt_of_cell? w _ hx112_1)).trans hx112_1; replace hx112_2 := (HB.out.cell (World.block_lt_of_cell? w _ hx112_2)).trans hx112_2; replace hx112_3 := (HB.out.cell (World.block_lt_of_cell? w _ hx112_3)).trans hx112_3; replace hx112_4 := (HB.out.cell (World.block_lt_of_cell? w _ hx112_4)).trans hx112_4; have HR112_2 := Aside0.mk hi112_2; have HC112_2 := Aside0.mk hl112_2; clear hi112_2 hl112_2; replace hx112_0 := (cell_far (p := ⟨gb111, 0, none⟩) (by first | (rw [add_block]; exact hn112_0) | (show (Addr.add _ _).block ≠ _; rw [add_block]; exact hn112_0) | exact hn112_0) (.int .i64 ((rd_T71 l0 x5_1).f0))).trans hx112_0; replace hx112_1 := (cell_far (p := ⟨gb111, 0, none⟩) (by first | (rw [add_block]; exact hn112_0) | (show (Addr.add _ _).block ≠ _; rw [add_block]; exact hn112_0) | exact hn112_0) (.int .i64 ((rd_T71 l0 x5_1).f0))).trans hx112_1; replace hx112_2 := (cell_far (p := ⟨gb111, 0, none⟩) (by first | (rw [add_block]; exact hn112_0) | (show (Addr.add _ _).block ≠ _; rw [add_block]; exact hn112_0) | exact hn112_0) (.int .i64 ((rd_T71 l0 x5_1).f0))).trans hx112_2; replace hx112_3 := (cell_far (p := ⟨gb111, 0, none⟩) (by first | (rw [add_block]; exact hn112_0) | (show (Addr.add _ _).block ≠ _; rw [add_block]; exact hn112_0) | exact hn112_0) (.int .i64 ((rd_T71 l0 x5_1).f0))).trans hx112_3; replace hx112_4 := (cell_far (p := ⟨gb111, 0, none⟩) (by first | (rw [add_block]; exact hn112_0) | (show (Addr.add _ _).block ≠ _; rw [add_block]; exact hn112_0) | exact hn112_0) (.int .i64 ((rd_T71 l0 x5_1).f0))).trans hx112_4; replace hx112_0 := (cell_far (p := ⟨gb111, 1, none⟩) (by first | (rw [add_block]; exact hn112_1) | (show (Addr.add _ _).block ≠ _; rw [add_block]; exact hn112_1) | exact hn112_1) (.int .i64 ((rd_T71 l0 x5_1).f1))).trans hx112_0; replace hx112_1 := (cell_far (p := ⟨gb111, 1, none⟩) (by first | (rw [add_block]; exact hn112_1) | (show (Addr.add _ _).block ≠ _; rw [add_block]; exact hn112_1) | exact hn112_1) (.int .i64 ((rd_T71 l0 x5_1).f1))).trans hx112_1; replace hx112_2 := (cell_far (p := ⟨gb111, 1, none⟩) (by first | (rw [add_block]; exact hn112_1) | (show (Addr.add _ _).block ≠ _; rw [add_block]; exact hn112_1) | exact hn112_1) (.int .i64 ((rd_T71 l0 x5_1).f1))).trans hx112_2; replace hx112_3 := (cell_far (p := ⟨gb111, 1, none⟩) (by first | (rw [add_block]; exact hn112_1) | (show (Addr.add _ _).block ≠ _; rw [add_block]; exact hn112_1) | exact hn112_1) (.int .i64 ((rd_T71 l0 x5_1).f1))).trans hx112_3; replace hx112_4 := (cell_far (p := ⟨gb111, 1, none⟩) (by first | (rw [add_block]; exact hn112_1) | (show (Addr.add _ _).block ≠ _; rw [add_block]; exact hn112_1) | exact hn112_1) (.int .i64 ((rd_T71 l0 x5_1).f1))).trans hx112_4; replace hx112_0 := (cell_far (p := ⟨gb111, 2, none⟩) (by first | (rw [add_block]; exact hn112_2) | (show (Addr.add _ _).block ≠ _; rw [add_block]; exact hn112_2) | exact hn112_2) (.slice A110_2 ((rd_T71 l0 x5_1).f2).length c110_2)).trans hx112_0; replace hx112_1 := (cell_far (p := ⟨gb111, 2, none⟩) (by first | (rw [add_block]; exact hn112_2) | (show (Addr.add _ _).block ≠ _; rw [add_block]; exact hn112_2) | exact hn112_2) (.slice A110_2 ((rd_T71 l0 x5_1).f2).length c110_2)).trans hx112_1; replace hx112_2 := (cell_far (p := ⟨gb111, 2, none⟩) (by first | (rw [add_block]; exact hn112_2) | (show (Addr.add _ _).block ≠ _; rw [add_block]; exact hn112_2) | exact hn112_2) (.slice A110_2 ((rd_T71 l0 x5_1).f2).length c110_2)).trans hx112_2; replace hx112_3 := (cell_far (p := ⟨gb111, 2, none⟩) (by first | (rw [add_block]; exact hn112_2) | (show (Addr.add _ _).block ≠ _; rw [add_block]; exact hn112_2) | exact hn112_2) (.slice A110_2 ((rd_T71 l0 x5_1).f2).length c110_2)).trans hx112_3; replace hx112_4 := (cell_far (p := ⟨gb111, 2, none⟩) (by first | (rw [add_block]; exact hn112_2) | (show (Addr.add _ _).block ≠ _; rw [add_block]; exact hn112_2) | exact hn112_2) (.slice A110_2 ((rd_T71 l0 x5_1).f2).length c110_2)).trans hx112_4; replace hx112_0 := (cell_far (p := ⟨gb111, 3, none⟩) (by first | (rw [add_block]; exact hn112_3) | (show (Addr.add _ _).block ≠ _; rw [add_block]; exact hn112_3) | exact hn112_3) (.int .i64 ((rd_T71 l0 x5_1).f3))).trans hx112_0; replace hx112_1 := (cell_far (p := ⟨gb111, 3, none⟩) (by first | (rw [add_block]; exact hn112_3) | (show (Addr.add _ _).block ≠ _; rw [add_block]; exact hn112_3) | exact hn112_3) (.int .i64 ((rd_T71 l0 x5_1).f3))).trans hx112_1; replace hx112_2 := (cell_far (p := ⟨gb111, 3, none⟩) (by first | (rw [add_block]; exact hn112_3) | (show (Addr.add _ _).block ≠ _; rw [add_block]; exact hn112_3) | exact hn112_3) (.int .i64 ((rd_T71 l0 x5_1).f3))).trans hx112_2; replace hx112_3 := (cell_far (p := ⟨gb111, 3, none⟩) (by first | (rw [add_block]; exact hn112_3) | (show (Addr.add _ _).block ≠ _; rw [add_block]; exact hn112_3) | exact hn112_3) (.int .i64 ((rd_T71 l0 x5_1).f3))).trans hx112_3; replace hx112_4 := (cell_far (p := ⟨gb111, 3, none⟩) (by first | (rw [add_block]; exact hn112_3) | (show (Addr.add _ _).block ≠ _; rw [add_block]; exact hn112_3) | exact hn112_3) (.int .i64 ((rd_T71 l0 x5_1).f3))).trans hx112_4; replace hx112_0 := (cell_far (p := ⟨gb111, 4, none⟩) (by first | (rw [add_block]; exact hn112_4) | (show (Addr.add _ _).block ≠ _; rw [add_block]; exact hn112_4) | exact hn112_4) (.int .i64 ((rd_T71 l0 x5_1).f4))).trans hx112_0; replace hx112_1 := (cell_far (p := ⟨gb111, 4, none⟩) (by first | (rw [add_block]; exact hn112_4) | (show (Addr.add _ _).block ≠ _; rw [add_block]; exact hn112_4) | exact hn112_4) (.int .i64 ((rd_T71 l0 x5_1).f4))).trans hx112_1; replace hx112_2 := (cell_far (p := ⟨gb111, 4, none⟩) (by first | (rw [add_block]; exact hn112_4) | (show (Addr.add _ _).block ≠ _; rw [add_block]; exact hn112_4) | exact hn112_4) (.int .i64 ((rd_T71 l0 x5_1).f4))).trans hx112_2; replace hx112_3 := (cell_far (p := ⟨gb111, 4, none⟩) (by first | (rw [add_block]; exact hn112_4) | (show (Addr.add _ _).block ≠ _; rw [add_block]; exact hn112_4) | exact hn112_4) (.int .i64 ((rd_T71 l0 x5_1).f4))).trans hx112_3; replace hx112_4 := (cell_far (p := ⟨gb111, 4, none⟩) (by first | (rw [add_block]; exact hn112_4) | (show (Addr.add _ _).block ≠ _; rw [add_block]; exact hn112_4) | exact hn112_4) (.int .i64 ((rd_T71 l0 x5_1).f4))).trans hx112_4; (try have hy112_0 := fun (n_ : Nat) => (show (((((((w13.drewN n_).setCell ⟨gb111, 0, none⟩ (.int .i64 ((rd_T71 l0 x5_1).f0))).setCell ⟨gb111, 1, none⟩ (.int .i64 ((rd_T71 l0 x5_1).f1))).setCell ⟨gb111, 2, none⟩ (.slice A110_2 ((rd_T71 l0 x5_1).f2).length c110_2)).setCell ⟨gb111, 3, none⟩ (.int .i64 ((rd_T71 l0 x5_1).f3))).setCell ⟨gb111, 4, none⟩ (.int .i64 ((rd_T71 l0 x5_1).f4)))).cell? _ = some _ from hx112_0)); (try have hy112_1 := fun (n_ : Nat) => (show (((((((w13.drewN n_).setCell ⟨gb111, 0, none⟩ (.int .i64 ((rd_T71 l0 x5_1).f0))).setCell ⟨gb111, 1, none⟩ (.int .i64 ((rd_T71 l0 x5_1).f1))).setCell ⟨gb111, 2, none⟩ (.slice A110_2 ((rd_T71 l0 x5_1).f2).length c110_2)).setCell ⟨gb111, 3, none⟩ (.int .i64 ((rd_T71 l0 x5_1).f3))).setCell ⟨gb111, 4, none⟩ (.int .i64 ((rd_T71 l0 x5_1).f4)))).cell? _ = some _ from hx112_1)); (try have hy112_2 := fun (n_ : Nat) => (show (((((((w13.drewN n_).setCell ⟨gb111, 0, none⟩ (.int .i64 ((rd_T71 l0 x5_1).f0))).setCell ⟨gb111, 1, none⟩ (.int .i64 ((rd_T71 l0 x5_1).f1))).setCell ⟨gb111, 2, none⟩ (.slice A110_2 ((rd_T71 l0 x5_1).f2).length c110_2)).setCell ⟨gb111, 3, none⟩ (.int .i64 ((rd_T71 l0 x5_1).f3))).setCell ⟨gb111, 4, none⟩ (.int .i64 ((rd_T71 l0 x5_1).f4)))).cell? _ = some _ from hx112_2)); (try have hy112_3 := fun (n_ : Nat) => (show (((((((w13.drewN n_).setCell ⟨gb111, 0, none⟩ (.int .i64 ((rd_T71 l0 x5_1).f0))).setCell ⟨gb111, 1, none⟩ (.int .i64 ((rd_T71 l0 x5_1).f1))).setCell ⟨gb111, 2, none⟩ (.slice A110_2 ((rd_T71 l0 x5_1).f2).length c110_2)).setCell ⟨gb111, 3, none⟩ (.int .i64 ((rd_T71 l0 x5_1).f3))).setCell ⟨gb111, 4, none⟩ (.int .i64 ((rd_T71 l0 x5_1).f4)))).cell? _ = some _ from hx112_3)); (try have hy112_4 := fun (n_ : Nat) => (show (((((((w13.drewN n_).setCell ⟨gb111, 0, none⟩ (.int .i64 ((rd_T71 l0 x5_1).f0))).setCell ⟨gb111, 1, none⟩ (.int .i64 ((rd_T71 l0 x5_1).f1))).setCell ⟨gb111, 2, none⟩ (.slice A110_2 ((rd_T71 l0 x5_1).f2).length c110_2)).setCell ⟨gb111, 3, none⟩ (.int .i64 ((rd_T71 l0 x5_1).f3))).setCell ⟨gb111, 4, none⟩ (.int .i64 ((rd_T71 l0 x5_1).f4)))).cell? _ = some _ from hx112_4)); clear hn112_0; clear hn112_1; clear hn112_2; clear hn112_3; clear hn112_4; replace p112 := eq_true p112; replace q112 := eq_true q112) | ((with_reducible refine gate_dst (N := 8) rfl ?_); (try (refine gate_guard (by rfl) ?_; dsimp only)); refine box_event ?hg (N := 8) ?hd (cs := #[.int .i64 0, .int .i64 0, .slice none 0 0, .int .i64 0, .int .i64 0]) (t := 71) ?hr ?_; (case hd => rfl); (case hg => rfl); (case hr => first | (go_simp; done) | (go_simp; rfl)); intro gb113 hg w15 hbox hb; have n0_ := Aside0.mk (blk_below (g := gb111) (o := .cells #[.int .i64 ((rd_T71 l0 x5_1).f0), .int .i64 ((rd_T71 l0 x5_1).f1), .slice A110_2 ((rd_T71 l0 x5_1).f2).length c110_2, .int .i64 ((rd_T71 l0 x5_1).f3), .int .i64 ((rd_T71 l0 x5_1).f4)] 71 (0, 0)) (by (with_reducible repeat (first | refine blk_drewN ?_ _ | refine blk_drew ?_ | refine blk_alloc ?_ _)); refine blk_put (cs := #[.int .i64 ((rd_T71 l0 x5_1).f0), .int .i64 ((rd_T71 l0 x5_1).f1), .slice A110_2 ((rd_T71 l0 x5_1).f2).length c110_2, .int .i64 ((rd_T71 l0 x5_1).f3), .int .i64 0]) ?_ 4 _ rfl; (with_reducible repeat (first | refine blk_drewN ?_ _ | refine blk_drew ?_ | refine blk_alloc ?_ _)); refine blk_put (cs := #[.int .i64 ((rd_T71 l0 x5_1).f0), .int .i64 ((rd_T71 l0 x5_1).f1), .slice A110_2 ((rd_T71 l0 x5_1).f2).length c110_2, .int .i64 0, .int .i64 0]) ?_ 3 _ rfl; (with_reducible repeat (first | refine blk_drewN ?_ _ | refine blk_drew ?_ | refine blk_alloc ?_ _)); refine blk_put (cs := #[.int .i64 ((rd_T71 l0 x5_1).f0), .int .i64 ((rd_T71 l0 x5_1).f1), .slice none 0 0, .int .i64 0, .int .i64 0]) ?_ 2 _ rfl; (with_reducible repeat (first | refine blk_drewN ?_ _ | refine blk_drew ?_ | refine blk_alloc ?_ _)); refine blk_put (cs := #[.int .i64 ((rd_T71 l0 x5_1).f0), .int .i64 0, .slice none 0 0, .int .i64 0, .int .i64 0]) ?_ 1 _ rfl; (with_reducible repeat (first | refine blk_drewN ?_ _ | refine blk_drew ?_ | refine blk_alloc ?_ _)); refine blk_put (cs := #[.int .i64 0, .int .i64 0, .slice none 0 0, .int .i64 0, .int .i64 0]) ?_ 0 _ rfl; (with_reducible repeat (first | refine blk_drewN ?_ _ | refine blk_drew ?_ | refine blk_alloc ?_ _)); exact BK111.out) hb); have n1_ := Aside0.mk (below_step (by repeat (first | (with_reducible first | exact HB.out | apply below_alloc | apply pw_below_drewN | apply below_drew1 | refine below_set ?_ GE111.out) | exact HB.out)) hb); have n2_ := Aside0.mk (hbox); have n3_ := Aside0.mk ((by rw [hg]; exact (below_size (by repeat (first | (with_reducible first | exact HB.out | apply below_alloc | apply pw_below_drewN | apply below_drew1 | refine below_set ?_ GE111.out) | exact HB.out))) : w.heap.size ≤ gb113)); have n4_ := Aside0.mk ((by rw [hg]; exact (below_size (by repeat (first | (with_reducible first | exact HB.out | apply below_alloc | apply pw_below_drewN | apply below_drew1 | refine below_set ?_ GE111.out) | exact HB.out))) : w.heap.size ≤ gb113)); have n5_ := Aside0.mk ((by rw [hg]; exact Nat.ne_of_lt (blk_lt (g := gb111) (o := .cells #[.int .i64 ((rd_T71 l0 x5_1).f0), .int .i64 ((rd_T71 l0 x5_1).f1), .slice A110_2 ((rd_T71 l0 x5_1).f2).length c110_2, .int .i64 ((rd_T71 l0 x5_1).f3), .int .i64 ((rd_T71 l0 x5_1).f4)] 71 (0, 0)) (by (with_reducible repeat (first | refine blk_drewN ?_ _ | refine blk_drew ?_ | refine blk_alloc ?_ _)); refine blk_put (cs := #[.int .i64 ((rd_T71 l0 x5_1).f0), .int .i64 ((rd_T71 l0 x5_1).f1), .slice A110_2 ((rd_T71 l0 x5_1).f2).length c110_2, .int .i64 ((rd_T71 l0 x5_1).f3), .int .i64 0]) ?_ 4 _ rfl; (with_reducible repeat (first | refine blk_drewN ?_ _ | refine blk_drew ?_ | refine blk_alloc ?_ _)); refine blk_put (cs := #[.int .i64 ((rd_T71 l0 x5_1).f0), .int .i64 ((rd_T71 l0 x5_1).f1), .slice A110_2 ((rd_T71 l0 x5_1).f2).length c110_2, .int .i64 0, .int .i64 0]) ?_ 3 _ rfl; (with_reducible repeat (first | refine blk_drewN ?_ _ | refine blk_drew ?_ | refine blk_alloc ?_ _)); refine blk_put (cs := #[.int .i64 ((rd_T71 l0 x5_1).f0), .int .i64 ((rd_T71 l0 x5_1).f1), .slice none 0 0, .int .i64 0, .int .i64 0]) ?_ 2 _ rfl; (with_reducible repeat (first | refine blk_drewN ?_ _ | refine blk_drew ?_ | refine blk_alloc ?_ _)); refine blk_put (cs := #[.int .i64 ((rd_T71 l0 x5_1).f0), .int .i64 0, .slice none 0 0, .int .i64 0, .int .i64 0]) ?_ 1 _ rfl; (with_reducible repeat (first | refine blk_drewN ?_ _ | refine blk_drew ?_ | refine blk_alloc ?_ _)); refine blk_put (cs := #[.int .i64 0, .int .i64 0, .slice none 0 0, .int .i64 0, .int .i64 0]) ?_ 0 _ rfl; (with_reducible repeat (first | refine blk_drewN ?_ _ | refine blk_drew ?_ | refine blk_alloc ?_ _)); exact BK111.out)) : gb111 ≠ gb113)); have n6_ := Aside0.mk ((by rw [hg]; exact Nat.ne_of_gt (blk_lt (g := gb111) (o := .cells #[.int .i64 ((rd_T71 l0 x5_1).f0), .int .i64 ((rd_T71 l0 x5_1).f1), .slice A110_2 ((rd_T71 l0 x5_1).f2).length c110_2, .int .i64 ((rd_T71 l0 x5_1).f3), .int .i64 ((rd_T71 l0 x5_1).f4)] 71 (0, 0)) (by (with_reducible repeat (first | refine blk_drewN ?_ _ | refine blk_drew ?_ | refine blk_alloc ?_ _)); refine blk_put (cs := #[.int .i64 ((rd_T71 l0 x5_1).f0), .int .i64 ((rd_T71 l0 x5_1).f1), .slice A110_2 ((rd_T71 l0 x5_1).f2).length c110_2, .int .i64 ((rd_T71 l0 x5_1).f3), .int .i64 0]) ?_ 4 _ rfl; (with_reducible repeat (first | refine blk_drewN ?_ _ | refine blk_drew ?_ | refine blk_alloc ?_ _)); refine blk_put (cs := #[.int .i64 ((rd_T71 l0 x5_1).f0), .int .i64 ((rd_T71 l0 x5_1).f1), .slice A110_2 ((rd_T71 l0 x5_1).f2).length c110_2, .int .i64 0, .int .i64 0]) ?_ 3 _ rfl; (with_reducible repeat (first | refine blk_drewN ?_ _ | refine blk_drew ?_ | refine blk_alloc ?_ _)); refine blk_put (cs := #[.int .i64 ((rd_T71 l0 x5_1).f0), .int .i64 ((rd_T71 l0 x5_1).f1), .slice none 0 0, .int .i64 0, .int .i64 0]) ?_ 2 _ rfl; (with_reducible repeat (first | refine blk_drewN ?_ _ | refine blk_drew ?_ | refine blk_alloc ?_ _)); refine blk_put (cs := #[.int .i64 ((rd_T71 l0 x5_1).f0), .int .i64 0, .slice none 0 0, .int .i64 0, .int .i64 0]) ?_ 1 _ rfl; (with_reducible repeat (first | refine blk_drewN ?_ _ | refine blk_drew ?_ | refine blk_alloc ?_ _)); refine blk_put (cs := #[.int .i64 0, .int .i64 0, .slice none 0 0, .int .i64 0, .int .i64 0]) ?_ 0 _ rfl; (with_reducible repeat (first | refine blk_drewN ?_ _ | refine blk_drew ?_ | refine blk_alloc ?_ _)); exact BK111.out)) : gb113 ≠ gb111)); clear BK111; clear HB; have BK111 := n0_; have HB := n1_; have BK113 := n2_; have GW113 := n3_; have GE113 := n4_; have NB111_113 := n5_; have NB113_111 := n6_; clear n0_ n1_ n2_ n3_ n4_ n5_ n6_; clear hb hbox hg; have hnb16 := NB113_111.out; have hnc16 := NB111_113.out; have hcz17_0 : w15.cell? ⟨gb113, 0, none⟩ = some (.int .i64 0) := (blk_cell BK113.out 0).trans rfl; have hcz17_1 : w15.cell? ⟨gb113, 1, none⟩ = some (.int .i64 0) := (blk_cell BK113.out 1).trans rfl; have hcz17_2 : w15.cell? ⟨gb113, 2, none⟩ = some (.slice none 0 0) := (blk_cell BK113.out 2).trans rfl; have hcz17_3 : w15.cell? ⟨gb113, 3, none⟩ = some (.int .i64 0) := (blk_cell BK113.out 3).trans rfl; have hcz17_4 : w15.cell? ⟨gb113, 4, none⟩ = some (.int .i64 0) := (blk_cell BK113.out 4).trans rfl; have hfz17_0 := blk_frozen BK113.out 0; have hfz17_1 := blk_frozen BK113.out 1; have hfz17_2 := blk_frozen BK113.out 2; have hfz17_3 := blk_frozen BK113.out 3; have hfz17_4 := blk_frozen BK113.out 4)))
                            (try simp only [Act.put, List.setIfInBounds_toArray, List.set_cons_zero, List.set_cons_succ])
                            go_cut [97] (fun v97 wc => ∃ (kq : Nat) (x97_11 : Bool), v97 = .bool x97_11 ∧ Aside0 (spec_Fair.j2 kq l0 l1 x5_1 x6_2 x97_11 = some r) ∧ Aside0 (kq ≤ k2) ∧ Aside0 (wc.heap[gb111]? = some (.cells #[.int .i64 ((rd_T71 l0 x5_1).f0), .int .i64 ((rd_T71 l0 x5_1).f1), (.slice A110_2 ((rd_T71 l0 x5_1).f2).length c110_2), .int .i64 ((rd_T71 l0 x5_1).f3), .int .i64 ((rd_T71 l0 x5_1).f4)] 71 (0, 0))) ∧ Aside0 (wc.heap[gb113]? = some (.cells #[.int .i64 ((rd_T71 l0 x6_2).f0), .int .i64 ((rd_T71 l0 x6_2).f1), (.slice A112_2 ((rd_T71 l0 x6_2).f2).length c112_2), .int .i64 ((rd_T71 l0 x6_2).f3), .int .i64 ((rd_T71 l0 x6_2).f4)] 71 (0, 0))) ∧ Aside0 (Below w.heap.size w wc))
                            case first =>
                              have H := HC12.out
                              clear HC12
                              by_cases c18 : ((rd_T71 l0 x5_1).f0) = ((rd_T71 l0 x6_2).f0)
                              · rw [if_pos c18] at H
                                have c18b0 : (((rd_T71 l0 x5_1).f0) == ((rd_T71 l0 x6_2).f0)) = true := beq_iff_eq.mpr c18
                                have c18b1 : (((rd_T71 l0 x5_1).f0) != ((rd_T71 l0 x6_2).f0)) = false := bne_eq_false_iff_eq.mpr c18
                                clear c18
                                (first | rw [c18b0] | (simp only [i64_w, i32_w]; rw [c18b0]) | skip)
                                by_cases c19 : (((rd_T71 l0 x5_1).f2).length : Int) = (((rd_T71 l0 x6_2).f2).length : Int)
                                · rw [if_pos c19] at H
                                  have c19b0 : ((((rd_T71 l0 x5_1).f2).length : Int) == (((rd_T71 l0 x6_2).f2).length : Int)) = true := beq_iff_eq.mpr c19
                                  have c19b1 : ((((rd_T71 l0 x5_1).f2).length : Int) != (((rd_T71 l0 x6_2).f2).length : Int)) = false := bne_eq_false_iff_eq.mpr c19
                                  have c19b2 : (((rd_T71 l0 x5_1).f2).length == ((rd_T71 l0 x6_2).f2).length) = true := by first | simpa using c19 | (simp at c19 ⊢; omega)
                                  clear c19
                                  by_cases c20 : ((rd_T71 l0 x5_1).f3) = ((rd_T71 l0 x6_2).f3)
                                  · rw [if_pos c20] at H
                                    have c20b0 : (((rd_T71 l0 x5_1).f3) == ((rd_T71 l0 x6_2).f3)) = true := beq_iff_eq.mpr c20
                                    have c20b1 : (((rd_T71 l0 x5_1).f3) != ((rd_T71 l0 x6_2).f3)) = false := bne_eq_false_iff_eq.mpr c20
                                    clear c20
                                    by_cases c21 : ((rd_T71 l0 x5_1).f1) > ((rd_T71 l0 x6_2).f1)
                                    · rw [if_pos c21] at H
                                      have c21b0 : decide (((rd_T71 l0 x6_2).f1) < ((rd_T71 l0 x5_1).f1)) = true := decide_eq_true c21
                                      clear c21
                                      by_cases c22 : x5_1 < (l1.length : Int)
                                      · rw [if_pos c22] at H
                                        have c22b0 : decide (x5_1 < (l1.length : Int)) = true := decide_eq_true c22
                                        clear c22
                                        by_cases c23 : ((rd_T70 l1 x5_1).f1) ≥ 0
                                        · rw [if_pos c23] at H
                                          have c23b0 : decide (0 ≤ ((rd_T70 l1 x5_1).f1)) = true := decide_eq_true c23
                                          clear c23
                                          by_cases c24 : x6_2 < (l1.length : Int)
                                          · rw [if_pos c24] at H
                                            have c24b0 : decide (x6_2 < (l1.length : Int)) = true := decide_eq_true c24
                                            clear c24
                                            by_cases c25 : ((rd_T70 l1 x6_2).f1) ≥ 0
                                            · rw [if_pos c25] at H
                                              have c25b0 : decide (0 ≤ ((rd_T70 l1 x6_2).f1)) = true := decide_eq_true c25
                                              clear c25
                                              have H' := Aside0.mk H
                                              clear H
                                              have hnb26 := NB111_113.out
                                              have hnc26 := NB113_111.out
                                              have hcz27_0 : w15.cell? ⟨gb111, 0, none⟩ = some (.int .i64 ((rd_T71 l0 x5_1).f0)) := (blk_cell BK111.out 0).trans rfl
                                              have hcz27_1 : w15.cell? ⟨gb111, 1, none⟩ = some (.int .i64 ((rd_T71 l0 x5_1).f1)) := (blk_cell BK111.out 1).trans rfl
                                              have hcz27_2 : w15.cell? ⟨gb111, 2, none⟩ = some (.slice A110_2 ((rd_T71 l0 x5_1).f2).length c110_2) := (blk_cell BK111.out 2).trans rfl
                                              have hcz27_3 : w15.cell? ⟨gb111, 3, none⟩ = some (.int .i64 ((rd_T71 l0 x5_1).f3)) := (blk_cell BK111.out 3).trans rfl
                                              have hcz27_4 : w15.cell? ⟨gb111, 4, none⟩ = some (.int .i64 ((rd_T71 l0 x5_1).f4)) := (blk_cell BK111.out 4).trans rfl
                                              have hfz27_0 := blk_frozen BK111.out 0
                                              have hfz27_1 := blk_frozen BK111.out 1
                                              have hfz27_2 := blk_frozen BK111.out 2
                                              have hfz27_3 := blk_frozen BK111.out 3
                                              have hfz27_4 := blk_frozen BK111.out 4
                                              have hcz28_0 : w15.cell? ⟨gb113, 0, none⟩ = some (.int .i64 0) := (blk_cell BK113.out 0).trans rfl
                                              have hcz28_1 : w15.cell? ⟨gb113, 1, none⟩ = some (.int .i64 0) := (blk_cell BK113.out 1).trans rfl
                                              have hcz28_2 : w15.cell? ⟨gb113, 2, none⟩ = some (.slice none 0 0) := (blk_cell BK113.out 2).trans rfl
                                              have hcz28_3 : w15.cell? ⟨gb113, 3, none⟩ = some (.int .i64 0) := (blk_cell BK113.out 3).trans rfl
                                              have hcz28_4 : w15.cell? ⟨gb113, 4, none⟩ = some (.int .i64 0) := (blk_cell BK113.out 4).trans rfl
                                              have hfz28_0 := blk_frozen BK113.out 0
                                              have hfz28_1 := blk_frozen BK113.out 1
                                              have hfz28_2 := blk_frozen BK113.out 2
                                              have hfz28_3 := blk_frozen BK113.out 3
                                              have hfz28_4 := blk_frozen BK113.out 4
                                              have p114 : 0 ≤ (x5_1 : Int) := of_decide_eq_true (by first | (with_reducible assumption) | assumption)
                                              have q114 : x5_1 < (l1.length : Int) := of_decide_eq_true (by first | (with_reducible assumption) | assumption)
                                              obtain ⟨ad114, A114_2, c114_2, e114, hx114_0, hx114_1, hx114_2, hx114_3, hl114_2, hi114_2⟩ := at_T70 HR1.out x5_1 p114 q114
                                              obtain rfl : ad109 = ad114 := (by injection e114)
                                              have hn114_0 : ad109.block ≠ gb113 := Nat.ne_of_lt (Nat.lt_of_lt_of_le (by have := World.block_lt_of_cell? _ _ hx114_0; first | rwa [add_block] at this | exact this) GW113.out)
                                              have hn114_1 : ad109.block ≠ gb113 := Nat.ne_of_lt (Nat.lt_of_lt_of_le (by have := World.block_lt_of_cell? _ _ hx114_0; first | rwa [add_block] at this | exact this) GW113.out)
                                              have hn114_2 : ad109.block ≠ gb113 := Nat.ne_of_lt (Nat.lt_of_lt_of_le (by have := World.block_lt_of_cell? _ _ hx114_0; first | rwa [add_block] at this | exact this) GW113.out)
                                              have hn114_3 : ad109.block ≠ gb113 := Nat.ne_of_lt (Nat.lt_of_lt_of_le (by have := World.block_lt_of_cell? _ _ hx114_0; first | rwa [add_block] at this | exact this) GW113.out)
                                              have hn114_4 : ad109.block ≠ gb113 := Nat.ne_of_lt (Nat.lt_of_lt_of_le (by have := World.block_lt_of_cell? _ _ hx114_0; first | rwa [add_block] at this | exact this) GW113.out)
                                              replace hx114_0 := (HB.out.cell (World.block_lt_of_cell? w _ hx114_0)).trans hx114_0
                                              replace hx114_1 := (HB.out.cell (World.block_lt_of_cell? w _ hx114_1)).trans hx114_1
                                              replace hx114_2 := (HB.out.cell (World.block_lt_of_cell? w _ hx114_2)).trans hx114_2
                                              replace hx114_3 := (HB.out.cell (World.block_lt_of_cell? w _ hx114_3)).trans hx114_3
                                              have HR114_2 := Aside0.mk hi114_2
                                              have HC114_2 := Aside0.mk hl114_2
                                              clear hi114_2 hl114_2
                                              replace hx114_0 := (cell_far (p := ⟨gb113, 0, none⟩) (by first | (rw [add_block]; exact hn114_0) | (show (Addr.add _ _).block ≠ _; rw [add_block]; exact hn114_0) | exact hn114_0) (.int .i64 ((rd_T71 l0 x6_2).f0))).trans hx114_0
                                              replace hx114_1 := (cell_far (p := ⟨gb113, 0, none⟩) (by first | (rw [add_block]; exact hn114_0) | (show (Addr.add _ _).block ≠ _; rw [add_block]; exact hn114_0) | exact hn114_0) (.int .i64 ((rd_T71 l0 x6_2).f0))).trans hx114_1
                                              replace hx114_2 := (cell_far (p := ⟨gb113, 0, none⟩) (by first | (rw [add_block]; exact hn114_0) | (show (Addr.add _ _).block ≠ _; rw [add_block]; exact hn114_0) | exact hn114_0) (.int .i64 ((rd_T71 l0 x6_2).f0))).trans hx114_2
                                              replace hx114_3 := (cell_far (p := ⟨gb113, 0, none⟩) (by first | (rw [add_block]; exact hn114_0) | (show (Addr.add _ _).block ≠ _; rw [add_block]; exact hn114_0) | exact hn114_0) (.int .i64 ((rd_T71 l0 x6_2).f0))).trans hx114_3
                                              replace hx114_0 := (cell_far (p := ⟨gb113, 1, none⟩) (by first | (rw [add_block]; exact hn114_1) | (show (Addr.add _ _).block ≠ _; rw [add_block]; exact hn114_1) | exact hn114_1) (.int .i64 ((rd_T71 l0 x6_2).f1))).trans hx114_0
                                              replace hx114_1 := (cell_far (p := ⟨gb113, 1, none⟩) (by first | (rw [add_block]; exact hn114_1) | (show (Addr.add _ _).block ≠ _; rw [add_block]; exact hn114_1) | exact hn114_1) (.int .i64 ((rd_T71 l0 x6_2).f1))).trans hx114_1
                                              replace hx114_2 := (cell_far (p := ⟨gb113, 1, none⟩) (by first | (rw [add_block]; exact hn114_1) | (show (Addr.add _ _).block ≠ _; rw [add_block]; exact hn114_1) | exact hn114_1) (.int .i64 ((rd_T71 l0 x6_2).f1))).trans hx114_2
                                              replace hx114_3 := (cell_far (p := ⟨gb113, 1, none⟩) (by first | (rw [add_block]; exact hn114_1) | (show (Addr.add _ _).block ≠ _; rw [add_block]; exact hn114_1) | exact hn114_1) (.int .i64 ((rd_T71 l0 x6_2).f1))).trans hx114_3
                                              replace hx114_0 := (cell_far (p := ⟨gb113, 2, none⟩) (by first | (rw [add_block]; exact hn114_2) | (show (Addr.add _ _).block ≠ _; rw [add_block]; exact hn114_2) | exact hn114_2) (.slice A112_2 ((rd_T71 l0 x6_2).f2).length c112_2)).trans hx114_0
                                              replace hx114_1 := (cell_far (p := ⟨gb113, 2, none⟩) (by first | (rw [add_block]; exact hn114_2) | (show (Addr.add _ _).block ≠ _; rw [add_block]; exact hn114_2) | exact hn114_2) (.slice A112_2 ((rd_T71 l0 x6_2).f2).length c112_2)).trans hx114_1
                                              replace hx114_2 := (cell_far (p := ⟨gb113, 2, none⟩) (by first | (rw [add_block]; exact hn114_2) | (show (Addr.add _ _).block ≠ _; rw [add_block]; exact hn114_2) | exact hn114_2) (.slice A112_2 ((rd_T71 l0 x6_2).f2).length c112_2)).trans hx114_2
                                              replace hx114_3 := (cell_far (p := ⟨gb113, 2, none⟩) (by first | (rw [add_block]; exact hn114_2) | (show (Addr.add _ _).block ≠ _; rw [add_block]; exact hn114_2) | exact hn114_2) (.slice A112_2 ((rd_T71 l0 x6_2).f2).length c112_2)).trans hx114_3
                                              replace hx114_0 := (cell_far (p := ⟨gb113, 3, none⟩) (by first | (rw [add_block]; exact hn114_3) | (show (Addr.add _ _).block ≠ _; rw [add_block]; exact hn114_3) | exact hn114_3) (.int .i64 ((rd_T71 l0 x6_2).f3))).trans hx114_0
                                              replace hx114_1 := (cell_far (p := ⟨gb113, 3, none⟩) (by first | (rw [add_block]; exact hn114_3) | (show (Addr.add _ _).block ≠ _; rw [add_block]; exact hn114_3) | exact hn114_3) (.int .i64 ((rd_T71 l0 x6_2).f3))).trans hx114_1
                                              replace hx114_2 := (cell_far (p := ⟨gb113, 3, none⟩) (by first | (rw [add_block]; exact hn114_3) | (show (Addr.add _ _).block ≠ _; rw [add_block]; exact hn114_3) | exact hn114_3) (.int .i64 ((rd_T71 l0 x6_2).f3))).trans hx114_2
                                              replace hx114_3 := (cell_far (p := ⟨gb113, 3, none⟩) (by first | (rw [add_block]; exact hn114_3) | (show (Addr.add _ _).block ≠ _; rw [add_block]; exact hn114_3) | exact hn114_3) (.int .i64 ((rd_T71 l0 x6_2).f3))).trans hx114_3
                                              replace hx114_0 := (cell_far (p := ⟨gb113, 4, none⟩) (by first | (rw [add_block]; exact hn114_4) | (show (Addr.add _ _).block ≠ _; rw [add_block]; exact hn114_4) | exact hn114_4) (.int .i64 ((rd_T71 l0 x6_2).f4))).trans hx114_0
                                              replace hx114_1 := (cell_far (p := ⟨gb113, 4, none⟩) (by first | (rw [add_block]; exact hn114_4) | (show (Addr.add _ _).block ≠ _; rw [add_block]; exact hn114_4) | exact hn114_4) (.int .i64 ((rd_T71 l0 x6_2).f4))).trans hx114_1
                                              replace hx114_2 := (cell_far (p := ⟨gb113, 4, none⟩) (by first | (rw [add_block]; exact hn114_4) | (show (Addr.add _ _).block ≠ _; rw [add_block]; exact hn114_4) | exact hn114_4) (.int .i64 ((rd_T71 l0 x6_2).f4))).trans hx114_2
                                              replace hx114_3 := (cell_far (p := ⟨gb113, 4, none⟩) (by first | (rw [add_block]; exact hn114_4) | (show (Addr.add _ _).block ≠ _; rw [add_block]; exact hn114_4) | exact hn114_4) (.int .i64 ((rd_T71 l0 x6_2).f4))).trans hx114_3
                                              (try have hy114_0 := fun (n_ : Nat) => (show (((((((w15.drewN n_).setCell ⟨gb113, 0, none⟩ (.int .i64 ((rd_T71 l0 x6_2).f0))).setCell ⟨gb113, 1, none⟩ (.int .i64 ((rd_T71 l0 x6_2).f1))).setCell ⟨gb113, 2, none⟩ (.slice A112_2 ((rd_T71 l0 x6_2).f2).length c112_2)).setCell ⟨gb113, 3, none⟩ (.int .i64 ((rd_T71 l0 x6_2).f3))).setCell ⟨gb113, 4, none⟩ (.int .i64 ((rd_T71 l0 x6_2).f4)))).cell? _ = some _ from hx114_0))
                                              (try have hy114_1 := fun (n_ : Nat) => (show (((((((w15.drewN n_).setCell ⟨gb113, 0, none⟩ (.int .i64 ((rd_T71 l0 x6_2).f0))).setCell ⟨gb113, 1, none⟩ (.int .i64 ((rd_T71 l0 x6_2).f1))).setCell ⟨gb113, 2, none⟩ (.slice A112_2 ((rd_T71 l0 x6_2).f2).length c112_2)).setCell ⟨gb113, 3, none⟩ (.int .i64 ((rd_T71 l0 x6_2).f3))).setCell ⟨gb113, 4, none⟩ (.int .i64 ((rd_T71 l0 x6_2).f4)))).cell? _ = some _ from hx114_1))
                                              (try have hy114_2 := fun (n_ : Nat) => (show (((((((w15.drewN n_).setCell ⟨gb113, 0, none⟩ (.int .i64 ((rd_T71 l0 x6_2).f0))).setCell ⟨gb113, 1, none⟩ (.int .i64 ((rd_T71 l0 x6_2).f1))).setCell ⟨gb113, 2, none⟩ (.slice A112_2 ((rd_T71 l0 x6_2).f2).length c112_2)).setCell ⟨gb113, 3, none⟩ (.int .i64 ((rd_T71 l0 x6_2).f3))).setCell ⟨gb113, 4, none⟩ (.int .i64 ((rd_T71 l0 x6_2).f4)))).cell? _ = some _ from hx114_2))
                                              (try have hy114_3 := fun (n_ : Nat) => (show (((((((w15.drewN n_).setCell ⟨gb113, 0, none⟩ (.int .i64 ((rd_T71 l0 x6_2).f0))).setCell ⟨gb113, 1, none⟩ (.int .i64 ((rd_T71 l0 x6_2).f1))).setCell ⟨gb113, 2, none⟩ (.slice A112_2 ((rd_T71 l0 x6_2).f2).length c112_2)).setCell ⟨gb113, 3, none⟩ (.int .i64 ((rd_T71 l0 x6_2).f3))).setCell ⟨gb113, 4, none⟩ (.int .i64 ((rd_T71 l0 x6_2).f4)))).cell? _ = some _ from hx114_3))
                                              clear hn114_0
                                              clear hn114_1
                                              clear hn114_2
                                              clear hn114_3
                                              clear hn114_4
                                              replace p114 := eq_true p114
                                              replace q114 := eq_true q114
                                              have p115 : 0 ≤ (x6_2 : Int) := of_decide_eq_true (by first | (with_reducible assumption) | assumption)
                                              have q115 : x6_2 < (l1.length : Int) := of_decide_eq_true (by first | (with_reducible assumption) | assumption)
                                              obtain ⟨ad115, A115_2, c115_2, e115, hx115_0, hx115_1, hx115_2, hx115_3, hl115_2, hi115_2⟩ := at_T70 HR1.out x6_2 p115 q115
                                              obtain rfl : ad109 = ad115 := (by injection e115)
                                              have hn115_0 : ad109.block ≠ gb113 := Nat.ne_of_lt (Nat.lt_of_lt_of_le (by have := World.block_lt_of_cell? _ _ hx115_0; first | rwa [add_block] at this | exact this) GW113.out)
                                              have hn115_1 : ad109.block ≠ gb113 := Nat.ne_of_lt (Nat.lt_of_lt_of_le (by have := World.block_lt_of_cell? _ _ hx115_0; first | rwa [add_block] at this | exact this) GW113.out)
                                              have hn115_2 : ad109.block ≠ gb113 := Nat.ne_of_lt (Nat.lt_of_lt_of_le (by have := World.block_lt_of_cell? _ _ hx115_0; first | rwa [add_block] at this | exact this) GW113.out)
                                              have hn115_3 : ad109.block ≠ gb113 := Nat.ne_of_lt (Nat.lt_of_lt_of_le (by have := World.block_lt_of_cell? _ _ hx115_0; first | rwa [add_block] at this | exact this) GW113.out)
                                              have hn115_4 : ad109.block ≠ gb113 := Nat.ne_of_lt (Nat.lt_of_lt_of_le (by have := World.block_lt_of_cell? _ _ hx115_0; first | rwa [add_block] at this | exact this) GW113.out)
                                              replace hx115_0 := (HB.out.cell (World.block_lt_of_cell? w _ hx115_0)).trans hx115_0
                                              replace hx115_1 := (HB.out.cell (World.block_lt_of_cell? w _ hx115_1)).trans hx115_1
                                              replace hx115_2 := (HB.out.cell (World.block_lt_of_cell? w _ hx115_2)).trans hx115_2
                                              replace hx115_3 := (HB.out.cell (World.block_lt_of_cell? w _ hx115_3)).trans hx115_3
                                              have HR115_2 := Aside0.mk hi115_2
                                              have HC115_2 := Aside0.mk hl115_2
                                              clear hi115_2 hl115_2
                                              replace hx115_0 := (cell_far (p := ⟨gb113, 0, none⟩) (by first | (rw [add_block]; exact hn115_0) | (show (Addr.add _ _).block ≠ _; rw [add_block]; exact hn115_0) | exact hn115_0) (.int .i64 ((rd_T71 l0 x6_2).f0))).trans hx115_0
                                              replace hx115_1 := (cell_far (p := ⟨gb113, 0, none⟩) (by first | (rw [add_block]; exact hn115_0) | (show (Addr.add _ _).block ≠ _; rw [add_block]; exact hn115_0) | exact hn115_0) (.int .i64 ((rd_T71 l0 x6_2).f0))).trans hx115_1
                                              replace hx115_2 := (cell_far (p := ⟨gb113, 0, none⟩) (by first | (rw [add_block]; exact hn115_0) | (show (Addr.add _ _).block ≠ _; rw [add_block]; exact hn115_0) | exact hn115_0) (.int .i64 ((rd_T71 l0 x6_2).f0))).trans hx115_2
                                              replace hx115_3 := (cell_far (p := ⟨gb113, 0, none⟩) (by first | (rw [add_block]; exact hn115_0) | (show (Addr.add _ _).block ≠ _; rw [add_block]; exact hn115_0) | exact hn115_0) (.int .i64 ((rd_T71 l0 x6_2).f0))).trans hx115_3
                                              replace hx115_0 := (cell_far (p := ⟨gb113, 1, none⟩) (by first | (rw [add_block]; exact hn115_1) | (show (Addr.add _ _).block ≠ _; rw [add_block]; exact hn115_1) | exact hn115_1) (.int .i64 ((rd_T71 l0 x6_2).f1))).trans hx115_0
                                              replace hx115_1 := (cell_far (p := ⟨gb113, 1, none⟩) (by first | (rw [add_block]; exact hn115_1) | (show (Addr.add _ _).block ≠ _; rw [add_block]; exact hn115_1) | exact hn115_1) (.int .i64 ((rd_T71 l0 x6_2).f1))).trans hx115_1
                                              replace hx115_2 := (cell_far (p := ⟨gb113, 1, none⟩) (by first | (rw [add_block]; exact hn115_1) | (show (Addr.add _ _).block ≠ _; rw [add_block]; exact hn115_1) | exact hn115_1) (.int .i64 ((rd_T71 l0 x6_2).f1))).trans hx115_2
                                              replace hx115_3 := (cell_far (p := ⟨gb113, 1, none⟩) (by first | (rw [add_block]; exact hn115_1) | (show (Addr.add _ _).block ≠ _; rw [add_block]; exact hn115_1) | exact hn115_1) (.int .i64 ((rd_T71 l0 x6_2).f1))).trans hx115_3
                                              replace hx115_0 := (cell_far (p := ⟨gb113, 2, none⟩) (by first | (rw [add_block]; exact hn115_2) | (show (Addr.add _ _).block ≠ _; rw [add_block]; exact hn115_2) | exact hn115_2) (.slice A112_2 ((rd_T71 l0 x6_2).f2).length c112_2)).trans hx115_0
                                              replace hx115_1 := (cell_far (p := ⟨gb113, 2, none⟩) (by first | (rw [add_block]; exact hn115_2) | (show (Addr.add _ _).block ≠ _; rw [add_block]; exact hn115_2) | exact hn115_2) (.slice A112_2 ((rd_T71 l0 x6_2).f2).length c112_2)).trans hx115_1
                                              replace hx115_2 := (cell_far (p := ⟨gb113, 2, none⟩) (by first | (rw [add_block]; exact hn115_2) | (show (Addr.add _ _).block ≠ _; rw [add_block]; exact hn115_2) | exact hn115_2) (.slice A112_2 ((rd_T71 l0 x6_2).f2).length c112_2)).trans hx115_2
                                              replace hx115_3 := (cell_far (p := ⟨gb113, 2, none⟩) (by first | (rw [add_block]; exact hn115_2) | (show (Addr.add _ _).block ≠ _; rw [add_block]; exact hn115_2) | exact hn115_2) (.slice A112_2 ((rd_T71 l0 x6_2).f2).length c112_2)).trans hx115_3
                                              replace hx115_0 := (cell_far (p := ⟨gb113, 3, none⟩) (by first | (rw [add_block]; exact hn115_3) | (show (Addr.add _ _).block ≠ _; rw [add_block]; exact hn115_3) | exact hn115_3) (.int .i64 ((rd_T71 l0 x6_2).f3))).trans hx115_0
                                              replace hx115_1 := (cell_far (p := ⟨gb113, 3, none⟩) (by first | (rw [add_block]; exact hn115_3) | (show (Addr.add _ _).block ≠ _; rw [add_block]; exact hn115_3) | exact hn115_3) (.int .i64 ((rd_T71 l0 x6_2).f3))).trans hx115_1
                                              replace hx115_2 := (cell_far (p := ⟨gb113, 3, none⟩) (by first | (rw [add_block]; exact hn115_3) | (show (Addr.add _ _).block ≠ _; rw [add_block]; exact hn115_3) | exact hn115_3) (.int .i64 ((rd_T71 l0 x6_2).f3))).trans hx115_2
                                              replace hx115_3 := (cell_far (p := ⟨gb113, 3, none⟩) (by first | (rw [add_block]; exact hn115_3) | (show (Addr.add _ _).block ≠ _; rw [add_block]; exact hn115_3) | exact hn115_3) (.int .i64 ((rd_T71 l0 x6_2).f3))).trans hx115_3
                                              replace hx115_0 := (cell_far (p := ⟨gb113, 4, none⟩) (by first | (rw [add_block]; exact hn115_4) | (show (Addr.add _ _).block ≠ _; rw [add_block]; exact hn115_4) | exact hn115_4) (.int .i64 ((rd_T71 l0 x6_2).f4))).trans hx115_0
                                              replace hx115_1 := (cell_far (p := ⟨gb113, 4, none⟩) (by first | (rw [add_block]; exact hn115_4) | (show (Addr.add _ _).block ≠ _; rw [add_block]; exact hn115_4) | exact hn115_4) (.int .i64 ((rd_T71 l0 x6_2).f4))).trans hx115_1
                                              replace hx115_2 := (cell_far (p := ⟨gb113, 4, none⟩) (by first | (rw [add_block]; exact hn115_4) | (show (Addr.add _ _).block ≠ _; rw [add_block]; exact hn115_4) | exact hn115_4) (.int .i64 ((rd_T71 l0 x6_2).f4))).trans hx115_2
                                              replace hx115_3 := (cell_far (p := ⟨gb113, 4, none⟩) (by first | (rw [add_block]; exact hn115_4) | (show (Addr.add _ _).block ≠ _; rw [add_block]; exact hn115_4) | exact hn115_4) (.int .i64 ((rd_T71 l0 x6_2).f4))).trans hx115_3
                                              (try have hy115_0 := fun (n_ : Nat) => (show (((((((w15.drewN n_).setCell ⟨gb113, 0, none⟩ (.int .i64 ((rd_T71 l0 x6_2).f0))).setCell ⟨gb113, 1, none⟩ (.int .i64 ((rd_T71 l0 x6_2).f1))).setCell ⟨gb113, 2, none⟩ (.slice A112_2 ((rd_T71 l0 x6_2).f2).length c112_2)).setCell ⟨gb113, 3, none⟩ (.int .i64 ((rd_T71 l0 x6_2).f3))).setCell ⟨gb113, 4, none⟩ (.int .i64 ((rd_T71 l0 x6_2).f4)))).cell? _ = some _ from hx115_0))
                                              (try have hy115_1 := fun (n_ : Nat) => (show (((((((w15.drewN n_).setCell ⟨gb113, 0, none⟩ (.int .i64 ((rd_T71 l0 x6_2).f0))).setCell ⟨gb113, 1, none⟩ (.int .i64 ((rd_T71 l0 x6_2).f1))).setCell ⟨gb113, 2, none⟩ (.slice A112_2 ((rd_T71 l0 x6_2).f2).length c112_2)).setCell ⟨gb113, 3, none⟩ (.int .i64 ((rd_T71 l0 x6_2).f3))).setCell ⟨gb113, 4, none⟩ (.int .i64 ((rd_T71 l0 x6_2).f4)))).cell? _ = some _ from hx115_1))
                                              (try have hy115_2 := fun (n_ : Nat) => (show (((((((w15.drewN n_).setCell ⟨gb113, 0, none⟩ (.int .i64 ((rd_T71 l0 x6_2).f0))).setCell ⟨gb113, 1, none⟩ (.int .i64 ((rd_T71 l0 x6_2).f1))).setCell ⟨gb113, 2, none⟩ (.slice A112_2 ((rd_T71 l0 x6_2).f2).length c112_2)).setCell ⟨gb113, 3, none⟩ (.int .i64 ((rd_T71 l0 x6_2).f3))).setCell ⟨gb113, 4, none⟩ (.int .i64 ((rd_T71 l0 x6_2).f4)))).cell? _ = some _ from hx115_2))
                                              (try have hy115_3 := fun (n_ : Nat) => (show (((((((w15.drewN n_).setCell ⟨gb113, 0, none⟩ (.int .i64 ((rd_T71 l0 x6_2).f0))).setCell ⟨gb113, 1, none⟩ (.int .i64 ((rd_T71 l0 x6_2).f1))).setCell ⟨gb113, 2, none⟩ (.slice A112_2 ((rd_T71 l0 x6_2).f2).length c112_2)).setCell ⟨gb113, 3, none⟩ (.int .i64 ((rd_T71 l0 x6_2).f3))).setCell ⟨gb113, 4, none⟩ (.int .i64 ((rd_T71 l0 x6_2).f4)))).cell? _ = some _ from hx115_3))
                                              clear hn115_0
                                              clear hn115_1
                                              clear hn115_2
                                              clear hn115_3
                                              clear hn115_4
                                              replace p115 := eq_true p115
                                              replace q115 := eq_true q115
                                              have p116 : 0 ≤ (x5_1 : Int) := of_decide_eq_true (by first | (with_reducible assumption) | assumption)
                                              have q116 : x5_1 < (l1.length : Int) := of_decide_eq_true (by first | (with_reducible assumption) | assumption)
                                              obtain ⟨ad116, A116_2, c116_2, e116, hx116_0, hx116_1, hx116_2, hx116_3, hl116_2, hi116_2⟩ := at_T70 HR1.out x5_1 p116 q116
                                              obtain rfl : ad109 = ad116 := (by injection e116)
                                              have hn116_0 : ad109.block ≠ gb113 := Nat.ne_of_lt (Nat.lt_of_lt_of_le (by have := World.block_lt_of_cell? _ _ hx116_0; first | rwa [add_block] at this | exact this) GW113.out)
                                              have hn116_1 : ad109.block ≠ gb113 := Nat.ne_of_lt (Nat.lt_of_lt_of_le (by have := World.block_lt_of_cell? _ _ hx116_0; first | rwa [add_block] at this | exact this) GW113.out)
                                              have hn116_2 : ad109.block ≠ gb113 := Nat.ne_of_lt (Nat.lt_of_lt_of_le (by have := World.block_lt_of_cell? _ _ hx116_0; first | rwa [add_block] at this | exact this) GW113.out)
                                              have hn116_3 : ad109.block ≠ gb113 := Nat.ne_of_lt (Nat.lt_of_lt_of_le (by have := World.block_lt_of_cell? _ _ hx116_0; first | rwa [add_block] at this | exact this) GW113.out)
                                              have hn116_4 : ad109.block ≠ gb113 := Nat.ne_of_lt (Nat.lt_of_lt_of_le (by have := World.block_lt_of_cell? _ _ hx116_0; first | rwa [add_block] at this | exact this) GW113.out)
                                              replace hx116_0 := (HB.out.cell (World.block_lt_of_cell? w _ hx116_0)).trans hx116_0
                                              replace hx116_1 := (HB.out.cell (World.block_lt_of_cell? w _ hx116_1)).trans hx116_1
                                              replace hx116_2 := (HB.out.cell (World.block_lt_of_cell? w _ hx116_2)).trans hx116_2
                                              replace hx116_3 := (HB.out.cell (World.block_lt_of_cell? w _ hx116_3)).trans hx116_3
                                              have HR116_2 := Aside0.mk hi116_2
                                              have HC116_2 := Aside0.mk hl116_2
                                              clear hi116_2 hl116_2
                                              replace hx116_0 := (cell_far (p := ⟨gb113, 0, none⟩) (by first | (rw [add_block]; exact hn116_0) | (show (Addr.add _ _).block ≠ _; rw [add_block]; exact hn116_0) | exact hn116_0) (.int .i64 ((rd_T71 l0 x6_2).f0))).trans hx116_0
                                              replace hx116_1 := (cell_far (p := ⟨gb113, 0, none⟩) (by first | (rw [add_block]; exact hn116_0) | (show (Addr.add _ _).block ≠ _; rw [add_block]; exact hn116_0) | exact hn116_0) (.int .i64 ((rd_T71 l0 x6_2).f0))).trans hx116_1
                                              replace hx116_2 := (cell_far (p := ⟨gb113, 0, none⟩) (by first | (rw [add_block]; exact hn116_0) | (show (Addr.add _ _).block ≠ _; rw [add_block]; exact hn116_0) | exact hn116_0) (.int .i64 ((rd_T71 l0 x6_2).f0))).trans hx116_2
                                              replace hx116_3 := (cell_far (p := ⟨gb113, 0, none⟩) (by first | (rw [add_block]; exact hn116_0) | (show (Addr.add _ _).block ≠ _; rw [add_block]; exact hn116_0) | exact hn116_0) (.int .i64 ((rd_T71 l0 x6_2).f0))).trans hx116_3
                                              replace hx116_0 := (cell_far (p := ⟨gb113, 1, none⟩) (by first | (rw [add_block]; exact hn116_1) | (show (Addr.add _ _).block ≠ _; rw [add_block]; exact hn116_1) | exact hn116_1) (.int .i64 ((rd_T71 l0 x6_2).f1))).trans hx116_0
                                              replace hx116_1 := (cell_far (p := ⟨gb113, 1, none⟩) (by first | (rw [add_block]; exact hn116_1) | (show (Addr.add _ _).block ≠ _; rw [add_block]; exact hn116_1) | exact hn116_1) (.int .i64 ((rd_T71 l0 x6_2).f1))).trans hx116_1
                                              replace hx116_2 := (cell_far (p := ⟨gb113, 1, none⟩) (by first | (rw [add_block]; exact hn116_1) | (show (Addr.add _ _).block ≠ _; rw [add_block]; exact hn116_1) | exact hn116_1) (.int .i64 ((rd_T71 l0 x6_2).f1))).trans hx116_2
                                              replace hx116_3 := (cell_far (p := ⟨gb113, 1, none⟩) (by first | (rw [add_block]; exact hn116_1) | (show (Addr.add _ _).block ≠ _; rw [add_block]; exact hn116_1) | exact hn116_1) (.int .i64 ((rd_T71 l0 x6_2).f1))).trans hx116_3
                                              replace hx116_0 := (cell_far (p := ⟨gb113, 2, none⟩) (by first | (rw [add_block]; exact hn116_2) | (show (Addr.add _ _).block ≠ _; rw [add_block]; exact hn116_2) | exact hn116_2) (.slice A112_2 ((rd_T71 l0 x6_2).f2).length c112_2)).trans hx116_0
                                              replace hx116_1 := (cell_far (p := ⟨gb113, 2, none⟩) (by first | (rw [add_block]; exact hn116_2) | (show (Addr.add _ _).block ≠ _; rw [add_block]; exact hn116_2) | exact hn116_2) (.slice A112_2 ((rd_T71 l0 x6_2).f2).length c112_2)).trans hx116_1
                                              replace hx116_2 := (cell_far (p := ⟨gb113, 2, none⟩) (by first | (rw [add_block]; exact hn116_2) | (show (Addr.add _ _).block ≠ _; rw [add_block]; exact hn116_2) | exact hn116_2) (.slice A112_2 ((rd_T71 l0 x6_2).f2).length c112_2)).trans hx116_2
                                              replace hx116_3 := (cell_far (p := ⟨gb113, 2, none⟩) (by first | (rw [add_block]; exact hn116_2) | (show (Addr.add _ _).block ≠ _; rw [add_block]; exact hn116_2) | exact hn116_2) (.slice A112_2 ((rd_T71 l0 x6_2).f2).length c112_2)).trans hx116_3
                                              replace hx116_0 := (cell_far (p := ⟨gb113, 3, none⟩) (by first | (rw [add_block]; exact hn116_3) | (show (Addr.add _ _).block ≠ _; rw [add_block]; exact hn116_3) | exact hn116_3) (.int .i64 ((rd_T71 l0 x6_2).f3))).trans hx116_0
                                              replace hx116_1 := (cell_far (p := ⟨gb113, 3, none⟩) (by first | (rw [add_block]; exact hn116_3) | (show (Addr.add _ _).block ≠ _; rw [add_block]; exact hn116_3) | exact hn116_3) (.int .i64 ((rd_T71 l0 x6_2).f3))).trans hx116_1
                                              replace hx116_2 := (cell_far (p := ⟨gb113, 3, none⟩) (by first | (rw [add_block]; exact hn116_3) | (show (Addr.add _ _).block ≠ _; rw [add_block]; exact hn116_3) | exact hn116_3) (.int .i64 ((rd_T71 l0 x6_2).f3))).trans hx116_2
                                              replace hx116_3 := (cell_far (p := ⟨gb113, 3, none⟩) (by first | (rw [add_block]; exact hn116_3) | (show (Addr.add _ _).block ≠ _; rw [add_block]; exact hn116_3) | exact hn116_3) (.int .i64 ((rd_T71 l0 x6_2).f3))).trans hx116_3
                                              replace hx116_0 := (cell_far (p := ⟨gb113, 4, none⟩) (by first | (rw [add_block]; exact hn116_4) | (show (Addr.add _ _).block ≠ _; rw [add_block]; exact hn116_4) | exact hn116_4) (.int .i64 ((rd_T71 l0 x6_2).f4))).trans hx116_0
                                              replace hx116_1 := (cell_far (p := ⟨gb113, 4, none⟩) (by first | (rw [add_block]; exact hn116_4) | (show (Addr.add _ _).block ≠ _; rw [add_block]; exact hn116_4) | exact hn116_4) (.int .i64 ((rd_T71 l0 x6_2).f4))).trans hx116_1
                                              replace hx116_2 := (cell_far (p := ⟨gb113, 4, none⟩) (by first | (rw [add_block]; exact hn116_4) | (show (Addr.add _ _).block ≠ _; rw [add_block]; exact hn116_4) | exact hn116_4) (.int .i64 ((rd_T71 l0 x6_2).f4))).trans hx116_2
                                              replace hx116_3 := (cell_far (p := ⟨gb113, 4, none⟩) (by first | (rw [add_block]; exact hn116_4) | (show (Addr.add _ _).block ≠ _; rw [add_block]; exact hn116_4) | exact hn116_4) (.int .i64 ((rd_T71 l0 x6_2).f4))).trans hx116_3
                                              (try have hy116_0 := fun (n_ : Nat) => (show (((((((w15.drewN n_).setCell ⟨gb113, 0, none⟩ (.int .i64 ((rd_T71 l0 x6_2).f0))).setCell ⟨gb113, 1, none⟩ (.int .i64 ((rd_T71 l0 x6_2).f1))).setCell ⟨gb113, 2, none⟩ (.slice A112_2 ((rd_T71 l0 x6_2).f2).length c112_2)).setCell ⟨gb113, 3, none⟩ (.int .i64 ((rd_T71 l0 x6_2).f3))).setCell ⟨gb113, 4, none⟩ (.int .i64 ((rd_T71 l0 x6_2).f4)))).cell? _ = some _ from hx116_0))
                                              (try have hy116_1 := fun (n_ : Nat) => (show (((((((w15.drewN n_).setCell ⟨gb113, 0, none⟩ (.int .i64 ((rd_T71 l0 x6_2).f0))).setCell ⟨gb113, 1, none⟩ (.int .i64 ((rd_T71 l0 x6_2).f1))).setCell ⟨gb113, 2, none⟩ (.slice A112_2 ((rd_T71 l0 x6_2).f2).length c112_2)).setCell ⟨gb113, 3, none⟩ (.int .i64 ((rd_T71 l0 x6_2).f3))).setCell ⟨gb113, 4, none⟩ (.int .i64 ((rd_T71 l0 x6_2).f4)))).cell? _ = some _ from hx116_1))
                                              (try have hy116_2 := fun (n_ : Nat) => (show (((((((w15.drewN n_).setCell ⟨gb113, 0, none⟩ (.int .i64 ((rd_T71 l0 x6_2).f0))).setCell ⟨gb113, 1, none⟩ (.int .i64 ((rd_T71 l0 x6_2).f1))).setCell ⟨gb113, 2, none⟩ (.slice A112_2 ((rd_T71 l0 x6_2).f2).length c112_2)).setCell ⟨gb113, 3, none⟩ (.int .i64 ((rd_T71 l0 x6_2).f3))).setCell ⟨gb113, 4, none⟩ (.int .i64 ((rd_T71 l0 x6_2).f4)))).cell? _ = some _ from hx116_2))
                                              (try have hy116_3 := fun (n_ : Nat) => (show (((((((w15.drewN n_).setCell ⟨gb113, 0, none⟩ (.int .i64 ((rd_T71 l0 x6_2).f0))).setCell ⟨gb113, 1, none⟩ (.int .i64 ((rd_T71 l0 x6_2).f1))).setCell ⟨gb113, 2, none⟩ (.slice A112_2 ((rd_T71 l0 x6_2).f2).length c112_2)).setCell ⟨gb113, 3, none⟩ (.int .i64 ((rd_T71 l0 x6_2).f3))).setCell ⟨gb113, 4, none⟩ (.int .i64 ((rd_T71 l0 x6_2).f4)))).cell? _ = some _ from hx116_3))
                                              clear hn116_0
                                              clear hn116_1
                                              clear hn116_2
                                              clear hn116_3
                                              clear hn116_4
                                              replace p116 := eq_true p116
                                              replace q116 := eq_true q116
                                              have p117 : 0 ≤ (x6_2 : Int) := of_decide_eq_true (by first | (with_reducible assumption) | assumption)
                                              have q117 : x6_2 < (l1.length : Int) := of_decide_eq_true (by first | (with_reducible assumption) | assumption)
                                              obtain ⟨ad117, A117_2, c117_2, e117, hx117_0, hx117_1, hx117_2, hx117_3, hl117_2, hi117_2⟩ := at_T70 HR1.out x6_2 p117 q117
                                              obtain rfl : ad109 = ad117 := (by injection e117)
                                              have hn117_0 : ad109.block ≠ gb113 := Nat.ne_of_lt (Nat.lt_of_lt_of_le (by have := World.block_lt_of_cell? _ _ hx117_0; first | rwa [add_block] at this | exact this) GW113.out)
                                              have hn117_1 : ad109.block ≠ gb113 := Nat.ne_of_lt (Nat.lt_of_lt_of_le (by have := World.block_lt_of_cell? _ _ hx117_0; first | rwa [add_block] at this | exact this) GW113.out)
                                              have hn117_2 : ad109.block ≠ gb113 := Nat.ne_of_lt (Nat.lt_of_lt_of_le (by have := World.block_lt_of_cell? _ _ hx117_0; first | rwa [add_block] at this | exact this) GW113.out)
                                              have hn117_3 : ad109.block ≠ gb113 := Nat.ne_of_lt (Nat.lt_of_lt_of_le (by have := World.block_lt_of_cell? _ _ hx117_0; first | rwa [add_block] at this | exact this) GW113.out)
                                              have hn117_4 : ad109.block ≠ gb113 := Nat.ne_of_lt (Nat.lt_of_lt_of_le (by have := World.block_lt_of_cell? _ _ hx117_0; first | rwa [add_block] at this | exact this) GW113.out)
                                              replace hx117_0 := (HB.out.cell (World.block_lt_of_cell? w _ hx117_0)).trans hx117_0
                                              replace hx117_1 := (HB.out.cell (World.block_lt_of_cell? w _ hx117_1)).trans hx117_1
                                              replace hx117_2 := (HB.out.cell (World.block_lt_of_cell? w _ hx117_2)).trans hx117_2
                                              replace hx117_3 := (HB.out.cell (World.block_lt_of_cell? w _ hx117_3)).trans hx117_3
                                              have HR117_2 := Aside0.mk hi117_2
                                              have HC117_2 := Aside0.mk hl117_2
                                              clear hi117_2 hl117_2
                                              replace hx117_0 := (cell_far (p := ⟨gb113, 0, none⟩) (by first | (rw [add_block]; exact hn117_0) | (show (Addr.add _ _).block ≠ _; rw [add_block]; exact hn117_0) | exact hn117_0) (.int .i64 ((rd_T71 l0 x6_2).f0))).trans hx117_0
                                              replace hx117_1 := (cell_far (p := ⟨gb113, 0, none⟩) (by first | (rw [add_block]; exact hn117_0) | (show (Addr.add _ _).block ≠ _; rw [add_block]; exact hn117_0) | exact hn117_0) (.int .i64 ((rd_T71 l0 x6_2).f0))).trans hx117_1
                                              replace hx117_2 := (cell_far (p := ⟨gb113, 0, none⟩) (by first | (rw [add_block]; exact hn117_0) | (show (Addr.add _ _).block ≠ _; rw [add_block]; exact hn117_0) | exact hn117_0) (.int .i64 ((rd_T71 l0 x6_2).f0))).trans hx117_2
                                              replace hx117_3 := (cell_far (p := ⟨gb113, 0, none⟩) (by first | (rw [add_block]; exact hn117_0) | (show (Addr.add _ _).block ≠ _; rw [add_block]; exact hn117_0) | exact hn117_0) (.int .i64 ((rd_T71 l0 x6_2).f0))).trans hx117_3
                                              replace hx117_0 := (cell_far (p := ⟨gb113, 1, none⟩) (by first | (rw [add_block]; exact hn117_1) | (show (Addr.add _ _).block ≠ _; rw [add_block]; exact hn117_1) | exact hn117_1) (.int .i64 ((rd_T71 l0 x6_2).f1))).trans hx117_0
                                              replace hx117_1 := (cell_far (p := ⟨gb113, 1, none⟩) (by first | (rw [add_block]; exact hn117_1) | (show (Addr.add _ _).block ≠ _; rw [add_block]; exact hn117_1) | exact hn117_1) (.int .i64 ((rd_T71 l0 x6_2).f1))).trans hx117_1
                                              replace hx117_2 := (cell_far (p := ⟨gb113, 1, none⟩) (by first | (rw [add_block]; exact hn117_1) | (show (Addr.add _ _).block ≠ _; rw [add_block]; exact hn117_1) | exact hn117_1) (.int .i64 ((rd_T71 l0 x6_2).f1))).trans hx117_2
                                              replace hx117_3 := (cell_far (p := ⟨gb113, 1, none⟩) (by first | (rw [add_block]; exact hn117_1) | (show (Addr.add _ _).block ≠ _; rw [add_block]; exact hn117_1) | exact hn117_1) (.int .i64 ((rd_T71 l0 x6_2).f1))).trans hx117_3
                                              replace hx117_0 := (cell_far (p := ⟨gb113, 2, none⟩) (by first | (rw [add_block]; exact hn117_2) | (show (Addr.add _ _).block ≠ _; rw [add_block]; exact hn117_2) | exact hn117_2) (.slice A112_2 ((rd_T71 l0 x6_2).f2).length c112_2)).trans hx117_0
                                              replace hx117_1 := (cell_far (p := ⟨gb113, 2, none⟩) (by first | (rw [add_block]; exact hn117_2) | (show (Addr.add _ _).block ≠ _; rw [add_block]; exact hn117_2) | exact hn117_2) (.slice A112_2 ((rd_T71 l0 x6_2).f2).length c112_2)).trans hx117_1
                                              replace hx117_2 := (cell_far (p := ⟨gb113, 2, none⟩) (by first | (rw [add_block]; exact hn117_2) | (show (Addr.add _ _).block ≠ _; rw [add_block]; exact hn117_2) | exact hn117_2) (.slice A112_2 ((rd_T71 l0 x6_2).f2).length c112_2)).trans hx117_2
                                              replace hx117_3 := (cell_far (p := ⟨gb113, 2, none⟩) (by first | (rw [add_block]; exact hn117_2) | (show (Addr.add _ _).block ≠ _; rw [add_block]; exact hn117_2) | exact hn117_2) (.slice A112_2 ((rd_T71 l0 x6_2).f2).length c112_2)).trans hx117_3
                                              replace hx117_0 := (cell_far (p := ⟨gb113, 3, none⟩) (by first | (rw [add_block]; exact hn117_3) | (show (Addr.add _ _).block ≠ _; rw [add_block]; exact hn117_3) | exact hn117_3) (.int .i64 ((rd_T71 l0 x6_2).f3))).trans hx117_0
                                              replace hx117_1 := (cell_far (p := ⟨gb113, 3, none⟩) (by first | (rw [add_block]; exact hn117_3) | (show (Addr.add _ _).block ≠ _; rw [add_block]; exact hn117_3) | exact hn117_3) (.int .i64 ((rd_T71 l0 x6_2).f3))).trans hx117_1
                                              replace hx117_2 := (cell_far (p := ⟨gb113, 3, none⟩) (by first | (rw [add_block]; exact hn117_3) | (show (Addr.add _ _).block ≠ _; rw [add_block]; exact hn117_3) | exact hn117_3) (.int .i64 ((rd_T71 l0 x6_2).f3))).trans hx117_2
                                              replace hx117_3 := (cell_far (p := ⟨gb113, 3, none⟩) (by first | (rw [add_block]; exact hn117_3) | (show (Addr.add _ _).block ≠ _; rw [add_block]; exact hn117_3) | exact hn117_3) (.int .i64 ((rd_T71 l0 x6_2).f3))).trans hx117_3
                                              replace hx117_0 := (cell_far (p := ⟨gb113, 4, none⟩) (by first | (rw [add_block]; exact hn117_4) | (show (Addr.add _ _).block ≠ _; rw [add_block]; exact hn117_4) | exact hn117_4) (.int .i64 ((rd_T71 l0 x6_2).f4))).trans hx117_0
                                              replace hx117_1 := (cell_far (p := ⟨gb113, 4, none⟩) (by first | (rw [add_block]; exact hn117_4) | (show (Addr.add _ _).block ≠ _; rw [add_block]; exact hn117_4) | exact hn117_4) (.int .i64 ((rd_T71 l0 x6_2).f4))).trans hx117_1
                                              replace hx117_2 := (cell_far (p := ⟨gb113, 4, none⟩) (by first | (rw [add_block]; exact hn117_4) | (show (Addr.add _ _).block ≠ _; rw [add_block]; exact hn117_4) | exact hn117_4) (.int .i64 ((rd_T71 l0 x6_2).f4))).trans hx117_2
                                              replace hx117_3 := (cell_far (p := ⟨gb113, 4, none⟩) (by first | (rw [add_block]; exact hn117_4) | (show (Addr.add _ _).block ≠ _; rw [add_block]; exact hn117_4) | exact hn117_4) (.int .i64 ((rd_T71 l0 x6_2).f4))).trans hx117_3
                                              (try have hy117_0 := fun (n_ : Nat) => (show (((((((w15.drewN n_).setCell ⟨gb113, 0, none⟩ (.int .i64 ((rd_T71 l0 x6_2).f0))).setCell ⟨gb113, 1, none⟩ (.int .i64 ((rd_T71 l0 x6_2).f1))).setCell ⟨gb113, 2, none⟩ (.slice A112_2 ((rd_T71 l0 x6_2).f2).length c112_2)).setCell ⟨gb113, 3, none⟩ (.int .i64 ((rd_T71 l0 x6_2).f3))).setCell ⟨gb113, 4, none⟩ (.int .i64 ((rd_T71 l0 x6_2).f4)))).cell? _ = some _ from hx117_0))
                                              (try have hy117_1 := fun (n_ : Nat) => (show (((((((w15.drewN n_).setCell ⟨gb113, 0, none⟩ (.int .i64 ((rd_T71 l0 x6_2).f0))).setCell ⟨gb113, 1, none⟩ (.int .i64 ((rd_T71 l0 x6_2).f1))).setCell ⟨gb113, 2, none⟩ (.slice A112_2 ((rd_T71 l0 x6_2).f2).length c112_2)).setCell ⟨gb113, 3, none⟩ (.int .i64 ((rd_T71 l0 x6_2).f3))).setCell ⟨gb113, 4, none⟩ (.int .i64 ((rd_T71 l0 x6_2).f4)))).cell? _ = some _ from hx117_1))
                                              (try have hy117_2 := fun (n_ : Nat) => (show (((((((w15.drewN n_).setCell ⟨gb113, 0, none⟩ (.int .i64 ((rd_T71 l0 x6_2).f0))).setCell ⟨gb113, 1, none⟩ (.int .i64 ((rd_T71 l0 x6_2).f1))).setCell ⟨gb113, 2, none⟩ (.slice A112_2 ((rd_T71 l0 x6_2).f2).length c112_2)).setCell ⟨gb113, 3, none⟩ (.int .i64 ((rd_T71 l0 x6_2).f3))).setCell ⟨gb113, 4, none⟩ (.int .i64 ((rd_T71 l0 x6_2).f4)))).cell? _ = some _ from hx117_2))
                                              (try have hy117_3 := fun (n_ : Nat) => (show (((((((w15.drewN n_).setCell ⟨gb113, 0, none⟩ (.int .i64 ((rd_T71 l0 x6_2).f0))).setCell ⟨gb113, 1, none⟩ (.int .i64 ((rd_T71 l0 x6_2).f1))).setCell ⟨gb113, 2, none⟩ (.slice A112_2 ((rd_T71 l0 x6_2).f2).length c112_2)).setCell ⟨gb113, 3, none⟩ (.int .i64 ((rd_T71 l0 x6_2).f3))).setCell ⟨gb113, 4, none⟩ (.int .i64 ((rd_T71 l0 x6_2).f4)))).cell? _ = some _ from hx117_3))
                                              clear hn117_0
                                              clear hn117_1
                                              clear hn117_2
                                              clear hn117_3
                                              clear hn117_4
                                              replace p117 := eq_true p117
                                              replace q117 := eq_true q117
                                              go_wp2
                                              repeat (go_quiet (fail); try go_wp2)
                                              go_meet
                                              case rel => exact ⟨_, (decide (((rd_T70 l1 x5_1).f1) > ((rd_T70 l1 x6_2).f1))), (by first | rfl | (simp; done) | (simp [*]; done)), H', ⟨by have := HK1.out; have := HK2.out; first | omega | exact Nat.le_refl _⟩, ⟨by (with_reducible repeat (first | refine blk_drewN ?_ _ | refine blk_drew ?_ | refine blk_alloc ?_ _)); refine blk_far ?_ NB111_113.out _; (with_reducible repeat (first | refine blk_drewN ?_ _ | refine blk_drew ?_ | refine blk_alloc ?_ _)); refine blk_far ?_ NB111_113.out _; (with_reducible repeat (first | refine blk_drewN ?_ _ | refine blk_drew ?_ | refine blk_alloc ?_ _)); refine blk_far ?_ NB111_113.out _; (with_reducible repeat (first | refine blk_drewN ?_ _ | refine blk_drew ?_ | refine blk_alloc ?_ _)); refine blk_far ?_ NB111_113.out _; (with_reducible repeat (first | refine blk_drewN ?_ _ | refine blk_drew ?_ | refine blk_alloc ?_ _)); refine blk_far ?_ NB111_113.out _; (with_reducible repeat (first | refine blk_drewN ?_ _ | refine blk_drew ?_ | refine blk_alloc ?_ _)); exact BK111.out⟩, ⟨by (with_reducible repeat (first | refine blk_drewN ?_ _ | refine blk_drew ?_ | refine blk_alloc ?_ _)); refine blk_put (cs := #[.int .i64 ((rd_T71 l0 x6_2).f0), .int .i64 ((rd_T71 l0 x6_2).f1), .slice A112_2 ((rd_T71 l0 x6_2).f2).length c112_2, .int .i64 ((rd_T71 l0 x6_2).f3), .int .i64 0]) ?_ 4 _ rfl; (with_reducible repeat (first | refine blk_drewN ?_ _ | refine blk_drew ?_ | refine blk_alloc ?_ _)); refine blk_put (cs := #[.int .i64 ((rd_T71 l0 x6_2).f0), .int .i64 ((rd_T71 l0 x6_2).f1), .slice A112_2 ((rd_T71 l0 x6_2).f2).length c112_2, .int .i64 0, .int .i64 0]) ?_ 3 _ rfl; (with_reducible repeat (first | refine blk_drewN ?_ _ | refine blk_drew ?_ | refine blk_alloc ?_ _)); refine blk_put (cs := #[.int .i64 ((rd_T71 l0 x6_2).f0), .int .i64 ((rd_T71 l0 x6_2).f1), .slice none 0 0, .int .i64 0, .int .i64 0]) ?_ 2 _ rfl; (with_reducible repeat (first | refine blk_drewN ?_ _ | refine blk_drew ?_ | refine blk_alloc ?_ _)); refine blk_put (cs := #[.int .i64 ((rd_T71 l0 x6_2).f0), .int .i64 0, .slice none 0 0, .int .i64 0, .int .i64 0]) ?_ 1 _ rfl; (with_reducible repeat (first | refine blk_drewN ?_ _ | refine blk_drew ?_ | refine blk_alloc ?_ _)); refine blk_put (cs := #[.int .i64 0, .int .i64 0, .slice none 0 0, .int .i64 0, .int .i64 0]) ?_ 0 _ rfl; (with_reducible repeat (first | refine blk_drewN ?_ _ | refine blk_drew ?_ | refine blk_alloc ?_ _)); exact BK113.out⟩, ⟨by repeat (first | (with_reducible first | exact HB.out | apply below_alloc | apply pw_below_drewN | apply below_drew1 | refine below_set ?_ GE111.out | refine below_set ?_ GE113.out) | exact HB.out)⟩⟩
                                            · rw [if_neg c25] at H
                                              have c25b0 : decide (0 ≤ ((rd_T70 l1 x6_2).f1)) = false := decide_eq_false c25
                                              clear c25
                                              have H' := Aside0.mk H
                                              clear H
                                              have hnb29 := NB111_113.out
                                              have hnc29 := NB113_111.out
                                              have hcz30_0 : w15.cell? ⟨gb111, 0, none⟩ = some (.int .i64 ((rd_T71 l0 x5_1).f0)) := (blk_cell BK111.out 0).trans rfl
                                              have hcz30_1 : w15.cell? ⟨gb111, 1, none⟩ = some (.int .i64 ((rd_T71 l0 x5_1).f1)) := (blk_cell BK111.out 1).trans rfl
                                              have hcz30_2 : w15.cell? ⟨gb111, 2, none⟩ = some (.slice A110_2 ((rd_T71 l0 x5_1).f2).length c110_2) := (blk_cell BK111.out 2).trans rfl
                                              have hcz30_3 : w15.cell? ⟨gb111, 3, none⟩ = some (.int .i64 ((rd_T71 l0 x5_1).f3)) := (blk_cell BK111.out 3).trans rfl
                                              have hcz30_4 : w15.cell? ⟨gb111, 4, none⟩ = some (.int .i64 ((rd_T71 l0 x5_1).f4)) := (blk_cell BK111.out 4).trans rfl
                                              have hfz30_0 := blk_frozen BK111.out 0
                                              have hfz30_1 := blk_frozen BK111.out 1
                                              have hfz30_2 := blk_frozen BK111.out 2
                                              have hfz30_3 := blk_frozen BK111.out 3
                                              have hfz30_4 := blk_frozen BK111.out 4
                                              have hcz31_0 : w15.cell? ⟨gb113, 0, none⟩ = some (.int .i64 0) := (blk_cell BK113.out 0).trans rfl
                                              have hcz31_1 : w15.cell? ⟨gb113, 1, none⟩ = some (.int .i64 0) := (blk_cell BK113.out 1).trans rfl
                                              have hcz31_2 : w15.cell? ⟨gb113, 2, none⟩ = some (.slice none 0 0) := (blk_cell BK113.out 2).trans rfl
                                              have hcz31_3 : w15.cell? ⟨gb113, 3, none⟩ = some (.int .i64 0) := (blk_cell BK113.out 3).trans rfl
                                              have hcz31_4 : w15.cell? ⟨gb113, 4, none⟩ = some (.int .i64 0) := (blk_cell BK113.out 4).trans rfl
                                              have hfz31_0 := blk_frozen BK113.out 0
                                              have hfz31_1 := blk_frozen BK113.out 1
                                              have hfz31_2 := blk_frozen BK113.out 2
                                              have hfz31_3 := blk_frozen BK113.out 3
                                              have hfz31_4 := blk_frozen BK113.out 4
                                              have p114 : 0 ≤ (x5_1 : Int) := of_decide_eq_true (by first | (with_reducible assumption) | assumption)
                                              have q114 : x5_1 < (l1.length : Int) := of_decide_eq_true (by first | (with_reducible assumption) | assumption)
                                              obtain ⟨ad114, A114_2, c114_2, e114, hx114_0, hx114_1, hx114_2, hx114_3, hl114_2, hi114_2⟩ := at_T70 HR1.out x5_1 p114 q114
                                              obtain rfl : ad109 = ad114 := (by injection e114)
                                              have hn114_0 : ad109.block ≠ gb113 := Nat.ne_of_lt (Nat.lt_of_lt_of_le (by have := World.block_lt_of_cell? _ _ hx114_0; first | rwa [add_block] at this | exact this) GW113.out)
                                              have hn114_1 : ad109.block ≠ gb113 := Nat.ne_of_lt (Nat.lt_of_lt_of_le (by have := World.block_lt_of_cell? _ _ hx114_0; first | rwa [add_block] at this | exact this) GW113.out)
                                              have hn114_2 : ad109.block ≠ gb113 := Nat.ne_of_lt (Nat.lt_of_lt_of_le (by have := World.block_lt_of_cell? _ _ hx114_0; first | rwa [add_block] at this | exact this) GW113.out)
                                              have hn114_3 : ad109.block ≠ gb113 := Nat.ne_of_lt (Nat.lt_of_lt_of_le (by have := World.block_lt_of_cell? _ _ hx114_0; first | rwa [add_block] at this | exact this) GW113.out)
                                              have hn114_4 : ad109.block ≠ gb113 := Nat.ne_of_lt (Nat.lt_of_lt_of_le (by have := World.block_lt_of_cell? _ _ hx114_0; first | rwa [add_block] at this | exact this) GW113.out)
                                              replace hx114_0 := (HB.out.cell (World.block_lt_of_cell? w _ hx114_0)).trans hx114_0
                                              replace hx114_1 := (HB.out.cell (World.block_lt_of_cell? w _ hx114_1)).trans hx114_1
                                              replace hx114_2 := (HB.out.cell (World.block_lt_of_cell? w _ hx114_2)).trans hx114_2
                                              replace hx114_3 := (HB.out.cell (World.block_lt_of_cell? w _ hx114_3)).trans hx114_3
                                              have HR114_2 := Aside0.mk hi114_2
                                              have HC114_2 := Aside0.mk hl114_2
                                              clear hi114_2 hl114_2
                                              replace hx114_0 := (cell_far (p := ⟨gb113, 0, none⟩) (by first | (rw [add_block]; exact hn114_0) | (show (Addr.add _ _).block ≠ _; rw [add_block]; exact hn114_0) | exact hn114_0) (.int .i64 ((rd_T71 l0 x6_2).f0))).trans hx114_0
                                              replace hx114_1 := (cell_far (p := ⟨gb113, 0, none⟩) (by first | (rw [add_block]; exact hn114_0) | (show (Addr.add _ _).block ≠ _; rw [add_block]; exact hn114_0) | exact hn114_0) (.int .i64 ((rd_T71 l0 x6_2).f0))).trans hx114_1
                                              replace hx114_2 := (cell_far (p := ⟨gb113, 0, none⟩) (by first | (rw [add_block]; exact hn114_0) | (show (Addr.add _ _).block ≠ _; rw [add_block]; exact hn114_0) | exact hn114_0) (.int .i64 ((rd_T71 l0 x6_2).f0))).trans hx114_2
                                              replace hx114_3 := (cell_far (p := ⟨gb113, 0, none⟩) (by first | (rw [add_block]; exact hn114_0) | (show (Addr.add _ _).block ≠ _; rw [add_block]; exact hn114_0) | exact hn114_0) (.int .i64 ((rd_T71 l0 x6_2).f0))).trans hx114_3
                                              replace hx114_0 := (cell_far (p := ⟨gb113, 1, none⟩) (by first | (rw [add_block]; exact hn114_1) | (show (Addr.add _ _).block ≠ _; rw [add_block]; exact hn114_1) | exact hn114_1) (.int .i64 ((rd_T71 l0 x6_2).f1))).trans hx114_0
                                              replace hx114_1 := (cell_far (p := ⟨gb113, 1, none⟩) (by first | (rw [add_block]; exact hn114_1) | (show (Addr.add _ _).block ≠ _; rw [add_block]; exact hn114_1) | exact hn114_1) (.int .i64 ((rd_T71 l0 x6_2).f1))).trans hx114_1
                                              replace hx114_2 := (cell_far (p := ⟨gb113, 1, none⟩) (by first | (rw [add_block]; exact hn114_1) | (show (Addr.add _ _).block ≠ _; rw [add_block]; exact hn114_1) | exact hn114_1) (.int .i64 ((rd_T71 l0 x6_2).f1))).trans hx114_2
                                              replace hx114_3 := (cell_far (p := ⟨gb113, 1, none⟩) (by first | (rw [add_block]; exact hn114_1) | (show (Addr.add _ _).block ≠ _; rw [add_block]; exact hn114_1) | exact hn114_1) (.int .i64 ((rd_T71 l0 x6_2).f1))).trans hx114_3
                                              replace hx114_0 := (cell_far (p := ⟨gb113, 2, none⟩) (by first | (rw [add_block]; exact hn114_2) | (show (Addr.add _ _).block ≠ _; rw [add_block]; exact hn114_2) | exact hn114_2) (.slice A112_2 ((rd_T71 l0 x6_2).f2).length c112_2)).trans hx114_0
                                              replace hx114_1 := (cell_far (p := ⟨gb113, 2, none⟩) (by first | (rw [add_block]; exact hn114_2) | (show (Addr.add _ _).block ≠ _; rw [add_block]; exact hn114_2) | exact hn114_2) (.slice A112_2 ((rd_T71 l0 x6_2).f2).length c112_2)).trans hx114_1
                                              replace hx114_2 := (cell_far (p := ⟨gb113, 2, none⟩) (by first | (rw [add_block]; exact hn114_2) | (show (Addr.add _ _).block ≠ _; rw [add_block]; exact hn114_2) | exact hn114_2) (.slice A112_2 ((rd_T71 l0 x6_2).f2).length c112_2)).trans hx114_2
                                              replace hx114_3 := (cell_far (p := ⟨gb113, 2, none⟩) (by first | (rw [add_block]; exact hn114_2) | (show (Addr.add _ _).block ≠ _; rw [add_block]; exact hn114_2) | exact hn114_2) (.slice A112_2 ((rd_T71 l0 x6_2).f2).length c112_2)).trans hx114_3
                                              replace hx114_0 := (cell_far (p := ⟨gb113, 3, none⟩) (by first | (rw [add_block]; exact hn114_3) | (show (Addr.add _ _).block ≠ _; rw [add_block]; exact hn114_3) | exact hn114_3) (.int .i64 ((rd_T71 l0 x6_2).f3))).trans hx114_0
                                              replace hx114_1 := (cell_far (p := ⟨gb113, 3, none⟩) (by first | (rw [add_block]; exact hn114_3) | (show (Addr.add _ _).block ≠ _; rw [add_block]; exact hn114_3) | exact hn114_3) (.int .i64 ((rd_T71 l0 x6_2).f3))).trans hx114_1
                                              replace hx114_2 := (cell_far (p := ⟨gb113, 3, none⟩) (by first | (rw [add_block]; exact hn114_3) | (show (Addr.add _ _).block ≠ _; rw [add_block]; exact hn114_3) | exact hn114_3) (.int .i64 ((rd_T71 l0 x6_2).f3))).trans hx114_2
                                              replace hx114_3 := (cell_far (p := ⟨gb113, 3, none⟩) (by first | (rw [add_block]; exact hn114_3) | (show (Addr.add _ _).block ≠ _; rw [add_block]; exact hn114_3) | exact hn114_3) (.int .i64 ((rd_T71 l0 x6_2).f3))).trans hx114_3
                                              replace hx114_0 := (cell_far (p := ⟨gb113, 4, none⟩) (by first | (rw [add_block]; exact hn114_4) | (show (Addr.add _ _).block ≠ _; rw [add_block]; exact hn114_4) | exact hn114_4) (.int .i64 ((rd_T71 l0 x6_2).f4))).trans hx114_0
                                              replace hx114_1 := (cell_far (p := ⟨gb113, 4, none⟩) (by first | (rw [add_block]; exact hn114_4) | (show (Addr.add _ _).block ≠ _; rw [add_block]; exact hn114_4) | exact hn114_4) (.int .i64 ((rd_T71 l0 x6_2).f4))).trans hx114_1
                                              replace hx114_2 := (cell_far (p := ⟨gb113, 4, none⟩) (by first | (rw [add_block]; exact hn114_4) | (show (Addr.add _ _).block ≠ _; rw [add_block]; exact hn114_4) | exact hn114_4) (.int .i64 ((rd_T71 l0 x6_2).f4))).trans hx114_2
                                              replace hx114_3 := (cell_far (p := ⟨gb113, 4, none⟩) (by first | (rw [add_block]; exact hn114_4) | (show (Addr.add _ _).block ≠ _; rw [add_block]; exact hn114_4) | exact hn114_4) (.int .i64 ((rd_T71 l0 x6_2).f4))).trans hx114_3
                                              (try have hy114_0 := fun (n_ : Nat) => (show (((((((w15.drewN n_).setCell ⟨gb113, 0, none⟩ (.int .i64 ((rd_T71 l0 x6_2).f0))).setCell ⟨gb113, 1, none⟩ (.int .i64 ((rd_T71 l0 x6_2).f1))).setCell ⟨gb113, 2, none⟩ (.slice A112_2 ((rd_T71 l0 x6_2).f2).length c112_2)).setCell ⟨gb113, 3, none⟩ (.int .i64 ((rd_T71 l0 x6_2).f3))).setCell ⟨gb113, 4, none⟩ (.int .i64 ((rd_T71 l0 x6_2).f4)))).cell? _ = some _ from hx114_0))
                                              (try have hy114_1 := fun (n_ : Nat) => (show (((((((w15.drewN n_).setCell ⟨gb113, 0, none⟩ (.int .i64 ((rd_T71 l0 x6_2).f0))).setCell ⟨gb113, 1, none⟩ (.int .i64 ((rd_T71 l0 x6_2).f1))).setCell ⟨gb113, 2, none⟩ (.slice A112_2 ((rd_T71 l0 x6_2).f2).length c112_2)).setCell ⟨gb113, 3, none⟩ (.int .i64 ((rd_T71 l0 x6_2).f3))).setCell ⟨gb113, 4, none⟩ (.int .i64 ((rd_T71 l0 x6_2).f4)))).cell? _ = some _ from hx114_1))
                                              (try have hy114_2 := fun (n_ : Nat) => (show (((((((w15.drewN n_).setCell ⟨gb113, 0, none⟩ (.int .i64 ((rd_T71 l0 x6_2).f0))).setCell ⟨gb113, 1, none⟩ (.int .i64 ((rd_T71 l0 x6_2).f1))).setCell ⟨gb113, 2, none⟩ (.slice A112_2 ((rd_T71 l0 x6_2).f2).length c112_2)).setCell ⟨gb113, 3, none⟩ (.int .i64 ((rd_T71 l0 x6_2).f3))).setCell ⟨gb113, 4, none⟩ (.int .i64 ((rd_T71 l0 x6_2).f4)))).cell? _ = some _ from hx114_2))
                                              (try have hy114_3 := fun (n_ : Nat) => (show (((((((w15.drewN n_).setCell ⟨gb113, 0, none⟩ (.int .i64 ((rd_T71 l0 x6_2).f0))).setCell ⟨gb113, 1, none⟩ (.int .i64 ((rd_T71 l0 x6_2).f1))).setCell ⟨gb113, 2, none⟩ (.slice A112_2 ((rd_T71 l0 x6_2).f2).length c112_2)).setCell ⟨gb113, 3, none⟩ (.int .i64 ((rd_T71 l0 x6_2).f3))).setCell ⟨gb113, 4, none⟩ (.int .i64 ((rd_T71 l0 x6_2).f4)))).cell? _ = some _ from hx114_3))
                                              clear hn114_0
                                              clear hn114_1
                                              clear hn114_2
                                              clear hn114_3
                                              clear hn114_4
                                              replace p114 := eq_true p114
                                              replace q114 := eq_true q114
                                              have p115 : 0 ≤ (x6_2 : Int) := of_decide_eq_true (by first | (with_reducible assumption) | assumption)
                                              have q115 : x6_2 < (l1.length : Int) := of_decide_eq_true (by first | (with_reducible assumption) | assumption)
                                              obtain ⟨ad115, A115_2, c115_2, e115, hx115_0, hx115_1, hx115_2, hx115_3, hl115_2, hi115_2⟩ := at_T70 HR1.out x6_2 p115 q115
                                              obtain rfl : ad109 = ad115 := (by injection e115)
                                              have hn115_0 : ad109.block ≠ gb113 := Nat.ne_of_lt (Nat.lt_of_lt_of_le (by have := World.block_lt_of_cell? _ _ hx115_0; first | rwa [add_block] at this | exact this) GW113.out)
                                              have hn115_1 : ad109.block ≠ gb113 := Nat.ne_of_lt (Nat.lt_of_lt_of_le (by have := World.block_lt_of_cell? _ _ hx115_0; first | rwa [add_block] at this | exact this) GW113.out)
                                              have hn115_2 : ad109.block ≠ gb113 := Nat.ne_of_lt (Nat.lt_of_lt_of_le (by have := World.block_lt_of_cell? _ _ hx115_0; first | rwa [add_block] at this | exact this) GW113.out)
                                              have hn115_3 : ad109.block ≠ gb113 := Nat.ne_of_lt (Nat.lt_of_lt_of_le (by have := World.block_lt_of_cell? _ _ hx115_0; first | rwa [add_block] at this | exact this) GW113.out)
                                              have hn115_4 : ad109.block ≠ gb113 := Nat.ne_of_lt (Nat.lt_of_lt_of_le (by have := World.block_lt_of_cell? _ _ hx115_0; first | rwa [add_block] at this | exact this) GW113.out)
                                              replace hx115_0 := (HB.out.cell (World.block_lt_of_cell? w _ hx115_0)).trans hx115_0
                                              replace hx115_1 := (HB.out.cell (World.block_lt_of_cell? w _ hx115_1)).trans hx115_1
                                              replace hx115_2 := (HB.out.cell (World.block_lt_of_cell? w _ hx115_2)).trans hx115_2
                                              replace hx115_3 := (HB.out.cell (World.block_lt_of_cell? w _ hx115_3)).trans hx115_3
                                              have HR115_2 := Aside0.mk hi115_2
                                              have HC115_2 := Aside0.mk hl115_2
                                              clear hi115_2 hl115_2
                                              replace hx115_0 := (cell_far (p := ⟨gb113, 0, none⟩) (by first | (rw [add_block]; exact hn115_0) | (show (Addr.add _ _).block ≠ _; rw [add_block]; exact hn115_0) | exact hn115_0) (.int .i64 ((rd_T71 l0 x6_2).f0))).trans hx115_0
                                              replace hx115_1 := (cell_far (p := ⟨gb113, 0, none⟩) (by first | (rw [add_block]; exact hn115_0) | (show (Addr.add _ _).block ≠ _; rw [add_block]; exact hn115_0) | exact hn115_0) (.int .i64 ((rd_T71 l0 x6_2).f0))).trans hx115_1
                                              replace hx115_2 := (cell_far (p := ⟨gb113, 0, none⟩) (by first | (rw [add_block]; exact hn115_0) | (show (Addr.add _ _).block ≠ _; rw [add_block]; exact hn115_0) | exact hn115_0) (.int .i64 ((rd_T71 l0 x6_2).f0))).trans hx115_2
                                              replace hx115_3 := (cell_far (p := ⟨gb113, 0, none⟩) (by first | (rw [add_block]; exact hn115_0) | (show (Addr.add _ _).block ≠ _; rw [add_block]; exact hn115_0) | exact hn115_0) (.int .i64 ((rd_T71 l0 x6_2).f0))).trans hx115_3
                                              replace hx115_0 := (cell_far (p := ⟨gb113, 1, none⟩) (by first | (rw [add_block]; exact hn115_1) | (show (Addr.add _ _).block ≠ _; rw [add_block]; exact hn115_1) | exact hn115_1) (.int .i64 ((rd_T71 l0 x6_2).f1))).trans hx115_0
                                              replace hx115_1 := (cell_far (p := ⟨gb113, 1, none⟩) (by first | (rw [add_block]; exact hn115_1) | (show (Addr.add _ _).block ≠ _; rw [add_block]; exact hn115_1) | exact hn115_1) (.int .i64 ((rd_T71 l0 x6_2).f1))).trans hx115_1
                                              replace hx115_2 := (cell_far (p := ⟨gb113, 1, none⟩) (by first | (rw [add_block]; exact hn115_1) | (show (Addr.add _ _).block ≠ _; rw [add_block]; exact hn115_1) | exact hn115_1) (.int .i64 ((rd_T71 l0 x6_2).f1))).trans hx115_2
                                              replace hx115_3 := (cell_far (p := ⟨gb113, 1, none⟩) (by first | (rw [add_block]; exact hn115_1) | (show (Addr.add _ _).block ≠ _; rw [add_block]; exact hn115_1) | exact hn115_1) (.int .i64 ((rd_T71 l0 x6_2).f1))).trans hx115_3
                                              replace hx115_0 := (cell_far (p := ⟨gb113, 2, none⟩) (by first | (rw [add_block]; exact hn115_2) | (show (Addr.add _ _).block ≠ _; rw [add_block]; exact hn115_2) | exact hn115_2) (.slice A112_2 ((rd_T71 l0 x6_2).f2).length c112_2)).trans hx115_0
                                              replace hx115_1 := (cell_far (p := ⟨gb113, 2, none⟩) (by first | (rw [add_block]; exact hn115_2) | (show (Addr.add _ _).block ≠ _; rw [add_block]; exact hn115_2) | exact hn115_2) (.slice A112_2 ((rd_T71 l0 x6_2).f2).length c112_2)).trans hx115_1
                                              replace hx115_2 := (cell_far (p := ⟨gb113, 2, none⟩) (by first | (rw [add_block]; exact hn115_2) | (show (Addr.add _ _).block ≠ _; rw [add_block]; exact hn115_2) | exact hn115_2) (.slice A112_2 ((rd_T71 l0 x6_2).f2).length c112_2)).trans hx115_2
                                              replace hx115_3 := (cell_far (p := ⟨gb113, 2, none⟩) (by first | (rw [add_block]; exact hn115_2) | (show (Addr.add _ _).block ≠ _; rw [add_block]; exact hn115_2) | exact hn115_2) (.slice A112_2 ((rd_T71 l0 x6_2).f2).length c112_2)).trans hx115_3
                                              replace hx115_0 := (cell_far (p := ⟨gb113, 3, none⟩) (by first | (rw [add_block]; exact hn115_3) | (show (Addr.add _ _).block ≠ _; rw [add_block]; exact hn115_3) | exact hn115_3) (.int .i64 ((rd_T71 l0 x6_2).f3))).trans hx115_0
                                              replace hx115_1 := (cell_far (p := ⟨gb113, 3, none⟩) (by first | (rw [add_block]; exact hn115_3) | (show (Addr.add _ _).block ≠ _; rw [add_block]; exact hn115_3) | exact hn115_3) (.int .i64 ((rd_T71 l0 x6_2).f3))).trans hx115_1
                                              replace hx115_2 := (cell_far (p := ⟨gb113, 3, none⟩) (by first | (rw [add_block]; exact hn115_3) | (show (Addr.add _ _).block ≠ _; rw [add_block]; exact hn115_3) | exact hn115_3) (.int .i64 ((rd_T71 l0 x6_2).f3))).trans hx115_2
                                              replace hx115_3 := (cell_far (p := ⟨gb113, 3, none⟩) (by first | (rw [add_block]; exact hn115_3) | (show (Addr.add _ _).block ≠ _; rw [add_block]; exact hn115_3) | exact hn115_3) (.int .i64 ((rd_T71 l0 x6_2).f3))).trans hx115_3
                                              replace hx115_0 := (cell_far (p := ⟨gb113, 4, none⟩) (by first | (rw [add_block]; exact hn115_4) | (show (Addr.add _ _).block ≠ _; rw [add_block]; exact hn115_4) | exact hn115_4) (.int .i64 ((rd_T71 l0 x6_2).f4))).trans hx115_0
                                              replace hx115_1 := (cell_far (p := ⟨gb113, 4, none⟩) (by first | (rw [add_block]; exact hn115_4) | (show (Addr.add _ _).block ≠ _; rw [add_block]; exact hn115_4) | exact hn115_4) (.int .i64 ((rd_T71 l0 x6_2).f4))).trans hx115_1
                                              replace hx115_2 := (cell_far (p := ⟨gb113, 4, none⟩) (by first | (rw [add_block]; exact hn115_4) | (show (Addr.add _ _).block ≠ _; rw [add_block]; exact hn115_4) | exact hn115_4) (.int .i64 ((rd_T71 l0 x6_2).f4))).trans hx115_2
                                              replace hx115_3 := (cell_far (p := ⟨gb113, 4, none⟩) (by first | (rw [add_block]; exact hn115_4) | (show (Addr.add _ _).block ≠ _; rw [add_block]; exact hn115_4) | exact hn115_4) (.int .i64 ((rd_T71 l0 x6_2).f4))).trans hx115_3
                                              (try have hy115_0 := fun (n_ : Nat) => (show (((((((w15.drewN n_).setCell ⟨gb113, 0, none⟩ (.int .i64 ((rd_T71 l0 x6_2).f0))).setCell ⟨gb113, 1, none⟩ (.int .i64 ((rd_T71 l0 x6_2).f1))).setCell ⟨gb113, 2, none⟩ (.slice A112_2 ((rd_T71 l0 x6_2).f2).length c112_2)).setCell ⟨gb113, 3, none⟩ (.int .i64 ((rd_T71 l0 x6_2).f3))).setCell ⟨gb113, 4, none⟩ (.int .i64 ((rd_T71 l0 x6_2).f4)))).cell? _ = some _ from hx115_0))
                                              (try have hy115_1 := fun (n_ : Nat) => (show (((((((w15.drewN n_).setCell ⟨gb113, 0, none⟩ (.int .i64 ((rd_T71 l0 x6_2).f0))).setCell ⟨gb113, 1, none⟩ (.int .i64 ((rd_T71 l0 x6_2).f1))).setCell ⟨gb113, 2, none⟩ (.slice A112_2 ((rd_T71 l0 x6_2).f2).length c112_2)).setCell ⟨gb113, 3, none⟩ (.int .i64 ((rd_T71 l0 x6_2).f3))).setCell ⟨gb113, 4, none⟩ (.int .i64 ((rd_T71 l0 x6_2).f4)))).cell? _ = some _ from hx115_1))
                                              (try have hy115_2 := fun (n_ : Nat) => (show (((((((w15.drewN n_).setCell ⟨gb113, 0, none⟩ (.int .i64 ((rd_T71 l0 x6_2).f0))).setCell ⟨gb113, 1, none⟩ (.int .i64 ((rd_T71 l0 x6_2).f1))).setCell ⟨gb113, 2, none⟩ (.slice A112_2 ((rd_T71 l0 x6_2).f2).length c112_2)).setCell ⟨gb113, 3, none⟩ (.int .i64 ((rd_T71 l0 x6_2).f3))).setCell ⟨gb113, 4, none⟩ (.int .i64 ((rd_T71 l0 x6_2).f4)))).cell? _ = some _ from hx115_2))
                                              (try have hy115_3 := fun (n_ : Nat) => (show (((((((w15.drewN n_).setCell ⟨gb113, 0, none⟩ (.int .i64 ((rd_T71 l0 x6_2).f0))).setCell ⟨gb113, 1, none⟩ (.int .i64 ((rd_T71 l0 x6_2).f1))).setCell ⟨gb113, 2, none⟩ (.slice A112_2 ((rd_T71 l0 x6_2).f2).length c112_2)).setCell ⟨gb113, 3, none⟩ (.int .i64 ((rd_T71 l0 x6_2).f3))).setCell ⟨gb113, 4, none⟩ (.int .i64 ((rd_T71 l0 x6_2).f4)))).cell? _ = some _ from hx115_3))
                                              clear hn115_0
                                              clear hn115_1
                                              clear hn115_2
                                              clear hn115_3
                                              clear hn115_4
                                              replace p115 := eq_true p115
                                              replace q115 := eq_true q115
                                              go_wp2
                                              repeat (go_quiet (fail); try go_wp2)
                                              go_meet
                                              case rel => exact ⟨_, (false), (by first | rfl | (simp; done) | (simp [*]; done)), H', ⟨by have := HK1.out; have := HK2.out; first | omega | exact Nat.le_refl _⟩, ⟨by (with_reducible repeat (first | refine blk_drewN ?_ _ | refine blk_drew ?_ | refine blk_alloc ?_ _)); refine blk_far ?_ NB111_113.out _; (with_reducible repeat (first | refine blk_drewN ?_ _ | refine blk_drew ?_ | refine blk_alloc ?_ _)); refine blk_far ?_ NB111_113.out _; (with_reducible repeat (first | refine blk_drewN ?_ _ | refine blk_drew ?_ | refine blk_alloc ?_ _)); refine blk_far ?_ NB111_113.out _; (with_reducible repeat (first | refine blk_drewN ?_ _ | refine blk_drew ?_ | refine blk_alloc ?_ _)); refine blk_far ?_ NB111_113.out _; (with_reducible repeat (first | refine blk_drewN ?_ _ | refine blk_drew ?_ | refine blk_alloc ?_ _)); refine blk_far ?_ NB111_113.out _; (with_reducible repeat (first | refine blk_drewN ?_ _ | refine blk_drew ?_ | refine blk_alloc ?_ _)); exact BK111.out⟩, ⟨by (with_reducible repeat (first | refine blk_drewN ?_ _ | refine blk_drew ?_ | refine blk_alloc ?_ _)); refine blk_put (cs := #[.int .i64 ((rd_T71 l0 x6_2).f0), .int .i64 ((rd_T71 l0 x6_2).f1), .slice A112_2 ((rd_T71 l0 x6_2).f2).length c112_2, .int .i64 ((rd_T71 l0 x6_2).f3), .int .i64 0]) ?_ 4 _ rfl; (with_reducible repeat (first | refine blk_drewN ?_ _ | refine blk_drew ?_ | refine blk_alloc ?_ _)); refine blk_put (cs := #[.int .i64 ((rd_T71 l0 x6_2).f0), .int .i64 ((rd_T71 l0 x6_2).f1), .slice A112_2 ((rd_T71 l0 x6_2).f2).length c112_2, .int .i64 0, .int .i64 0]) ?_ 3 _ rfl; (with_reducible repeat (first | refine blk_drewN ?_ _ | refine blk_drew ?_ | refine blk_alloc ?_ _)); refine blk_put (cs := #[.int .i64 ((rd_T71 l0 x6_2).f0), .int .i64 ((rd_T71 l0 x6_2).f1), .slice none 0 0, .int .i64 0, .int .i64 0]) ?_ 2 _ rfl; (with_reducible repeat (first | refine blk_drewN ?_ _ | refine blk_drew ?_ | refine blk_alloc ?_ _)); refine blk_put (cs := #[.int .i64 ((rd_T71 l0 x6_2).f0), .int .i64 0, .slice none 0 0, .int .i64 0, .int .i64 0]) ?_ 1 _ rfl; (with_reducible repeat (first | refine blk_drewN ?_ _ | refine blk_drew ?_ | refine blk_alloc ?_ _)); refine blk_put (cs := #[.int .i64 0, .int .i64 0, .slice none 0 0, .int .i64 0, .int .i64 0]) ?_ 0 _ rfl; (with_reducible repeat (first | refine blk_drewN ?_ _ | refine blk_drew ?_ | refine blk_alloc ?_ _)); exact BK113.out⟩, ⟨by repeat (first | (with_reducible first | exact HB.out | apply below_alloc | apply pw_below_drewN | apply below_drew1 | refine below_set ?_ GE111.out | refine below_set ?_ GE113.out) | exact HB.out)⟩⟩
                                          · rw [if_neg c24] at H
                                            exact absurd H (by simp)
                                        · rw [if_neg c23] at H
                                          have c23b0 : decide (0 ≤ ((rd_T70 l1 x5_1).f1)) = false := decide_eq_false c23
                                          clear c23
                                          have H' := Aside0.mk H
                                          clear H
                                          have hnb32 := NB111_113.out
                                          have hnc32 := NB113_111.out
                                          have hcz33_0 : w15.cell? ⟨gb111, 0, none⟩ = some (.int .i64 ((rd_T71 l0 x5_1).f0)) := (blk_cell BK111.out 0).trans rfl
                                          have hcz33_1 : w15.cell? ⟨gb111, 1, none⟩ = some (.int .i64 ((rd_T71 l0 x5_1).f1)) := (blk_cell BK111.out 1).trans rfl
                                          have hcz33_2 : w15.cell? ⟨gb111, 2, none⟩ = some (.slice A110_2 ((rd_T71 l0 x5_1).f2).length c110_2) := (blk_cell BK111.out 2).trans rfl
                                          have hcz33_3 : w15.cell? ⟨gb111, 3, none⟩ = some (.int .i64 ((rd_T71 l0 x5_1).f3)) := (blk_cell BK111.out 3).trans rfl
                                          have hcz33_4 : w15.cell? ⟨gb111, 4, none⟩ = some (.int .i64 ((rd_T71 l0 x5_1).f4)) := (blk_cell BK111.out 4).trans rfl
                                          have hfz33_0 := blk_frozen BK111.out 0
                                          have hfz33_1 := blk_frozen BK111.out 1
                                          have hfz33_2 := blk_frozen BK111.out 2
                                          have hfz33_3 := blk_frozen BK111.out 3
                                          have hfz33_4 := blk_frozen BK111.out 4
                                          have hcz34_0 : w15.cell? ⟨gb113, 0, none⟩ = some (.int .i64 0) := (blk_cell BK113.out 0).trans rfl
                                          have hcz34_1 : w15.cell? ⟨gb113, 1, none⟩ = some (.int .i64 0) := (blk_cell BK113.out 1).trans rfl
                                          have hcz34_2 : w15.cell? ⟨gb113, 2, none⟩ = some (.slice none 0 0) := (blk_cell BK113.out 2).trans rfl
                                          have hcz34_3 : w15.cell? ⟨gb113, 3, none⟩ = some (.int .i64 0) := (blk_cell BK113.out 3).trans rfl
                                          have hcz34_4 : w15.cell? ⟨gb113, 4, none⟩ = some (.int .i64 0) := (blk_cell BK113.out 4).trans rfl
                                          have hfz34_0 := blk_frozen BK113.out 0
                                          have hfz34_1 := blk_frozen BK113.out 1
                                          have hfz34_2 := blk_frozen BK113.out 2
                                          have hfz34_3 := blk_frozen BK113.out 3
                                          have hfz34_4 := blk_frozen BK113.out 4
                                          have p114 : 0 ≤ (x5_1 : Int) := of_decide_eq_true (by first | (with_reducible assumption) | assumption)
                                          have q114 : x5_1 < (l1.length : Int) := of_decide_eq_true (by first | (with_reducible assumption) | assumption)
                                          obtain ⟨ad114, A114_2, c114_2, e114, hx114_0, hx114_1, hx114_2, hx114_3, hl114_2, hi114_2⟩ := at_T70 HR1.out x5_1 p114 q114
                                          obtain rfl : ad109 = ad114 := (by injection e114)
                                          have hn114_0 : ad109.block ≠ gb113 := Nat.ne_of_lt (Nat.lt_of_lt_of_le (by have := World.block_lt_of_cell? _ _ hx114_0; first | rwa [add_block] at this | exact this) GW113.out)
                                          have hn114_1 : ad109.block ≠ gb113 := Nat.ne_of_lt (Nat.lt_of_lt_of_le (by have := World.block_lt_of_cell? _ _ hx114_0; first | rwa [add_block] at this | exact this) GW113.out)
                                          have hn114_2 : ad109.block ≠ gb113 := Nat.ne_of_lt (Nat.lt_of_lt_of_le (by have := World.block_lt_of_cell? _ _ hx114_0; first | rwa [add_block] at this | exact this) GW113.out)
                                          have hn114_3 : ad109.block ≠ gb113 := Nat.ne_of_lt (Nat.lt_of_lt_of_le (by have := World.block_lt_of_cell? _ _ hx114_0; first | rwa [add_block] at this | exact this) GW113.out)
                                          have hn114_4 : ad109.block ≠ gb113 := Nat.ne_of_lt (Nat.lt_of_lt_of_le (by have := World.block_lt_of_cell? _ _ hx114_0; first | rwa [add_block] at this | exact this) GW113.out)
                                          replace hx114_0 := (HB.out.cell (World.block_lt_of_cell? w _ hx114_0)).trans hx114_0
                                          replace hx114_1 := (HB.out.cell (World.block_lt_of_cell? w _ hx114_1)).trans hx114_1
                                          replace hx114_2 := (HB.out.cell (World.block_lt_of_cell? w _ hx114_2)).trans hx114_2
                                          replace hx114_3 := (HB.out.cell (World.block_lt_of_cell? w _ hx114_3)).trans hx114_3
                                          have HR114_2 := Aside0.mk hi114_2
                                          have HC114_2 := Aside0.mk hl114_2
                                          clear hi114_2 hl114_2
                                          replace hx114_0 := (cell_far (p := ⟨gb113, 0, none⟩) (by first | (rw [add_block]; exact hn114_0) | (show (Addr.add _ _).block ≠ _; rw [add_block]; exact hn114_0) | exact hn114_0) (.int .i64 ((rd_T71 l0 x6_2).f0))).trans hx114_0
                                          replace hx114_1 := (cell_far (p := ⟨gb113, 0, none⟩) (by first | (rw [add_block]; exact hn114_0) | (show (Addr.add _ _).block ≠ _; rw [add_block]; exact hn114_0) | exact hn114_0) (.int .i64 ((rd_T71 l0 x6_2).f0))).trans hx114_1
                                          replace hx114_2 := (cell_far (p := ⟨gb113, 0, none⟩) (by first | (rw [add_block]; exact hn114_0) | (show (Addr.add _ _).block ≠ _; rw [add_block]; exact hn114_0) | exact hn114_0) (.int .i64 ((rd_T71 l0 x6_2).f0))).trans hx114_2
                                          replace hx114_3 := (cell_far (p := ⟨gb113, 0, none⟩) (by first | (rw [add_block]; exact hn114_0) | (show (Addr.add _ _).block ≠ _; rw [add_block]; exact hn114_0) | exact hn114_0) (.int .i64 ((rd_T71 l0 x6_2).f0))).trans hx114_3
                                          replace hx114_0 := (cell_far (p := ⟨gb113, 1, none⟩) (by first | (rw [add_block]; exact hn114_1) | (show (Addr.add _ _).block ≠ _; rw [add_block]; exact hn114_1) | exact hn114_1) (.int .i64 ((rd_T71 l0 x6_2).f1))).trans hx114_0
                                          replace hx114_1 := (cell_far (p := ⟨gb113, 1, none⟩) (by first | (rw [add_block]; exact hn114_1) | (show (Addr.add _ _).block ≠ _; rw [add_block]; exact hn114_1) | exact hn114_1) (.int .i64 ((rd_T71 l0 x6_2).f1))).trans hx114_1
                                          replace hx114_2 := (cell_far (p := ⟨gb113, 1, none⟩) (by first | (rw [add_block]; exact hn114_1) | (show (Addr.add _ _).block ≠ _; rw [add_block]; exact hn114_1) | exact hn114_1) (.int .i64 ((rd_T71 l0 x6_2).f1))).trans hx114_2
                                          replace hx114_3 := (cell_far (p := ⟨gb113, 1, none⟩) (by first | (rw [add_block]; exact hn114_1) | (show (Addr.add _ _).block ≠ _; rw [add_block]; exact hn114_1) | exact hn114_1) (.int .i64 ((rd_T71 l0 x6_2).f1))).trans hx114_3
                                          replace hx114_0 := (cell_far (p := ⟨gb113, 2, none⟩) (by first | (rw [add_block]; exact hn114_2) | (show (Addr.add _ _).block ≠ _; rw [add_block]; exact hn114_2) | exact hn114_2) (.slice A112_2 ((rd_T71 l0 x6_2).f2).length c112_2)).trans hx114_0
                                          replace hx114_1 := (cell_far (p := ⟨gb113, 2, none⟩) (by first | (rw [add_block]; exact hn114_2) | (show (Addr.add _ _).block ≠ _; rw [add_block]; exact hn114_2) | exact hn114_2) (.slice A112_2 ((rd_T71 l0 x6_2).f2).length c112_2)).trans hx114_1
                                          replace hx114_2 := (cell_far (p := ⟨gb113, 2, none⟩) (by first | (rw [add_block]; exact hn114_2) | (show (Addr.add _ _).block ≠ _; rw [add_block]; exact hn114_2) | exact hn114_2) (.slice A112_2 ((rd_T71 l0 x6_2).f2).length c112_2)).trans hx114_2
                                          replace hx114_3 := (cell_far (p := ⟨gb113, 2, none⟩) (by first | (rw [add_block]; exact hn114_2) | (show (Addr.add _ _).block ≠ _; rw [add_block]; exact hn114_2) | exact hn114_2) (.slice A112_2 ((rd_T71 l0 x6_2).f2).length c112_2)).trans hx114_3
                                          replace hx114_0 := (cell_far (p := ⟨gb113, 3, none⟩) (by first | (rw [add_block]; exact hn114_3) | (show (Addr.add _ _).block ≠ _; rw [add_block]; exact hn114_3) | exact hn114_3) (.int .i64 ((rd_T71 l0 x6_2).f3))).trans hx114_0
                                          replace hx114_1 := (cell_far (p := ⟨gb113, 3, none⟩) (by first | (rw [add_block]; exact hn114_3) | (show (Addr.add _ _).block ≠ _; rw [add_block]; exact hn114_3) | exact hn114_3) (.int .i64 ((rd_T71 l0 x6_2).f3))).trans hx114_1
                                          replace hx114_2 := (cell_far (p := ⟨gb113, 3, none⟩) (by first | (rw [add_block]; exact hn114_3) | (show (Addr.add _ _).block ≠ _; rw [add_block]; exact hn114_3) | exact hn114_3) (.int .i64 ((rd_T71 l0 x6_2).f3))).trans hx114_2
                                          replace hx114_3 := (cell_far (p := ⟨gb113, 3, none⟩) (by first | (rw [add_block]; exact hn114_3) | (show (Addr.add _ _).block ≠ _; rw [add_block]; exact hn114_3) | exact hn114_3) (.int .i64 ((rd_T71 l0 x6_2).f3))).trans hx114_3
                                          replace hx114_0 := (cell_far (p := ⟨gb113, 4, none⟩) (by first | (rw [add_block]; exact hn114_4) | (show (Addr.add _ _).block ≠ _; rw [add_block]; exact hn114_4) | exact hn114_4) (.int .i64 ((rd_T71 l0 x6_2).f4))).trans hx114_0
                                          replace hx114_1 := (cell_far (p := ⟨gb113, 4, none⟩) (by first | (rw [add_block]; exact hn114_4) | (show (Addr.add _ _).block ≠ _; rw [add_block]; exact hn114_4) | exact hn114_4) (.int .i64 ((rd_T71 l0 x6_2).f4))).trans hx114_1
                                          replace hx114_2 := (cell_far (p := ⟨gb113, 4, none⟩) (by first | (rw [add_block]; exact hn114_4) | (show (Addr.add _ _).block ≠ _; rw [add_block]; exact hn114_4) | exact hn114_4) (.int .i64 ((rd_T71 l0 x6_2).f4))).trans hx114_2
                                          replace hx114_3 := (cell_far (p := ⟨gb113, 4, none⟩) (by first | (rw [add_block]; exact hn114_4) | (show (Addr.add _ _).block ≠ _; rw [add_block]; exact hn114_4) | exact hn114_4) (.int .i64 ((rd_T71 l0 x6_2).f4))).trans hx114_3
                                          (try have hy114_0 := fun (n_ : Nat) => (show (((((((w15.drewN n_).setCell ⟨gb113, 0, none⟩ (.int .i64 ((rd_T71 l0 x6_2).f0))).setCell ⟨gb113, 1, none⟩ (.int .i64 ((rd_T71 l0 x6_2).f1))).setCell ⟨gb113, 2, none⟩ (.slice A112_2 ((rd_T71 l0 x6_2).f2).length c112_2)).setCell ⟨gb113, 3, none⟩ (.int .i64 ((rd_T71 l0 x6_2).f3))).setCell ⟨gb113, 4, none⟩ (.int .i64 ((rd_T71 l0 x6_2).f4)))).cell? _ = some _ from hx114_0))
                                          (try have hy114_1 := fun (n_ : Nat) => (show (((((((w15.drewN n_).setCell ⟨gb113, 0, none⟩ (.int .i64 ((rd_T71 l0 x6_2).f0))).setCell ⟨gb113, 1, none⟩ (.int .i64 ((rd_T71 l0 x6_2).f1))).setCell ⟨gb113, 2, none⟩ (.slice A112_2 ((rd_T71 l0 x6_2).f2).length c112_2)).setCell ⟨gb113, 3, none⟩ (.int .i64 ((rd_T71 l0 x6_2).f3))).setCell ⟨gb113, 4, none⟩ (.int .i64 ((rd_T71 l0 x6_2).f4)))).cell? _ = some _ from hx114_1))
                                          (try have hy114_2 := fun (n_ : Nat) => (show (((((((w15.drewN n_).setCell ⟨gb113, 0, none⟩ (.int .i64 ((rd_T71 l0 x6_2).f0))).setCell ⟨gb113, 1, none⟩ (.int .i64 ((rd_T71 l0 x6_2).f1))).setCell ⟨gb113, 2, none⟩ (.slice A112_2 ((rd_T71 l0 x6_2).f2).length c112_2)).setCell ⟨gb113, 3, none⟩ (.int .i64 ((rd_T71 l0 x6_2).f3))).setCell ⟨gb113, 4, none⟩ (.int .i64 ((rd_T71 l0 x6_2).f4)))).cell? _ = some _ from hx114_2))
                                          (try have hy114_3 := fun (n_ : Nat) => (show (((((((w15.drewN n_).setCell ⟨gb113, 0, none⟩ (.int .i64 ((rd_T71 l0 x6_2).f0))).setCell ⟨gb113, 1, none⟩ (.int .i64 ((rd_T71 l0 x6_2).f1))).setCell ⟨gb113, 2, none⟩ (.slice A112_2 ((rd_T71 l0 x6_2).f2).length c112_2)).setCell ⟨gb113, 3, none⟩ (.int .i64 ((rd_T71 l0 x6_2).f3))).setCell ⟨gb113, 4, none⟩ (.int .i64 ((rd_T71 l0 x6_2).f4)))).cell? _ = some _ from hx114_3))
                                          clear hn114_0
                                          clear hn114_1
                                          clear hn114_2
                                          clear hn114_3
                                          clear hn114_4
                                          replace p114 := eq_true p114
                                          replace q114 := eq_true q114
                                          go_wp2
                                          repeat (go_quiet (fail); try go_wp2)
                                          go_meet
                                          case rel => exact ⟨_, (false), (by first | rfl | (simp; done) | (simp [*]; done)), H', ⟨by have := HK1.out; have := HK2.out; first | omega | exact Nat.le_refl _⟩, ⟨by (with_reducible repeat (first | refine blk_drewN ?_ _ | refine blk_drew ?_ | refine blk_alloc ?_ _)); refine blk_far ?_ NB111_113.out _; (with_reducible repeat (first | refine blk_drewN ?_ _ | refine blk_drew ?_ | refine blk_alloc ?_ _)); refine blk_far ?_ NB111_113.out _; (with_reducible repeat (first | refine blk_drewN ?_ _ | refine blk_drew ?_ | refine blk_alloc ?_ _)); refine blk_far ?_ NB111_113.out _; (with_reducible repeat (first | refine blk_drewN ?_ _ | refine blk_drew ?_ | refine blk_alloc ?_ _)); refine blk_far ?_ NB111_113.out _; (with_reducible repeat (first | refine blk_drewN ?_ _ | refine blk_drew ?_ | refine blk_alloc ?_ _)); refine blk_far ?_ NB111_113.out _; (with_reducible repeat (first | refine blk_drewN ?_ _ | refine blk_drew ?_ | refine blk_alloc ?_ _)); exact BK111.out⟩, ⟨by (with_reducible repeat (first | refine blk_drewN ?_ _ | refine blk_drew ?_ | refine blk_alloc ?_ _)); refine blk_put (cs := #[.int .i64 ((rd_T71 l0 x6_2).f0), .int .i64 ((rd_T71 l0 x6_2).f1), .slice A112_2 ((rd_T71 l0 x6_2).f2).length c112_2, .int .i64 ((rd_T71 l0 x6_2).f3), .int .i64 0]) ?_ 4 _ rfl; (with_reducible repeat (first | refine blk_drewN ?_ _ | refine blk_drew ?_ | refine blk_alloc ?_ _)); refine blk_put (cs := #[.int .i64 ((rd_T71 l0 x6_2).f0), .int .i64 ((rd_T71 l0 x6_2).f1), .slice A112_2 ((rd_T71 l0 x6_2).f2).length c112_2, .int .i64 0, .int .i64 0]) ?_ 3 _ rfl; (with_reducible repeat (first | refine blk_drewN ?_ _ | refine blk_drew ?_ | refine blk_alloc ?_ _)); refine blk_put (cs := #[.int .i64 ((rd_T71 l0 x6_2).f0), .int .i64 ((rd_T71 l0 x6_2).f1), .slice none 0 0, .int .i64 0, .int .i64 0]) ?_ 2 _ rfl; (with_reducible repeat (first | refine blk_drewN ?_ _ | refine blk_drew ?_ | refine blk_alloc ?_ _)); refine blk_put (cs := #[.int .i64 ((rd_T71 l0 x6_2).f0), .int .i64 0, .slice none 0 0, .int .i64 0, .int .i64 0]) ?_ 1 _ rfl; (with_reducible repeat (first | refine blk_drewN ?_ _ | refine blk_drew ?_ | refine blk_alloc ?_ _)); refine blk_put (cs := #[.int .i64 0, .int .i64 0, .slice none 0 0, .int .i64 0, .int .i64 0]) ?_ 0 _ rfl; (with_reducible repeat (first | refine blk_drewN ?_ _ | refine blk_drew ?_ | refine blk_alloc ?_ _)); exact BK113.out⟩, ⟨by repeat (first | (with_reducible first | exact HB.out | apply below_alloc | apply pw_below_drewN | apply below_drew1 | refine below_set ?_ GE111.out | refine below_set ?_ GE113.out) | exact HB.out)⟩⟩
                                      · rw [if_neg c22] at H
                                        exact absurd H (by simp)
                                    · rw [if_neg c21] at H
                                      have c21b0 : decide (((rd_T71 l0 x6_2).f1) < ((rd_T71 l0 x5_1).f1)) = false := decide_eq_false c21
                                      clear c21
                                      have H' := Aside0.mk H
                                      clear H
                                      have hnb35 := NB111_113.out
                                      have hnc35 := NB113_111.out
                                      have hcz36_0 : w15.cell? ⟨gb111, 0, none⟩ = some (.int .i64 ((rd_T71 l0 x5_1).f0)) := (blk_cell BK111.out 0).trans rfl
                                      have hcz36_1 : w15.cell? ⟨gb111, 1, none⟩ = some (.int .i64 ((rd_T71 l0 x5_1).f1)) := (blk_cell BK111.out 1).trans rfl
                                      have hcz36_2 : w15.cell? ⟨gb111, 2, none⟩ = some (.slice A110_2 ((rd_T71 l0 x5_1).f2).length c110_2) := (blk_cell BK111.out 2).trans rfl
                                      have hcz36_3 : w15.cell? ⟨gb111, 3, none⟩ = some (.int .i64 ((rd_T71 l0 x5_1).f3)) := (blk_cell BK111.out 3).trans rfl
                                      have hcz36_4 : w15.cell? ⟨gb111, 4, none⟩ = some (.int .i64 ((rd_T71 l0 x5_1).f4)) := (blk_cell BK111.out 4).trans rfl
                                      have hfz36_0 := blk_frozen BK111.out 0
                                      have hfz36_1 := blk_frozen BK111.out 1
                                      have hfz36_2 := blk_frozen BK111.out 2
                                      have hfz36_3 := blk_frozen BK111.out 3
                                      have hfz36_4 := blk_frozen BK111.out 4
                                      have hcz37_0 : w15.cell? ⟨gb113, 0, none⟩ = some (.int .i64 0) := (blk_cell BK113.out 0).trans rfl
                                      have hcz37_1 : w15.cell? ⟨gb113, 1, none⟩ = some (.int .i64 0) := (blk_cell BK113.out 1).trans rfl
                                      have hcz37_2 : w15.cell? ⟨gb113, 2, none⟩ = some (.slice none 0 0) := (blk_cell BK113.out 2).trans rfl
                                      have hcz37_3 : w15.cell? ⟨gb113, 3, none⟩ = some (.int .i64 0) := (blk_cell BK113.out 3).trans rfl
                                      have hcz37_4 : w15.cell? ⟨gb113, 4, none⟩ = some (.int .i64 0) := (blk_cell BK113.out 4).trans rfl
                                      have hfz37_0 := blk_frozen BK113.out 0
                                      have hfz37_1 := blk_frozen BK113.out 1
                                      have hfz37_2 := blk_frozen BK113.out 2
                                      have hfz37_3 := blk_frozen BK113.out 3
                                      have hfz37_4 := blk_frozen BK113.out 4
                                      go_wp2
                                      repeat (go_quiet (fail); try go_wp2)
                                      go_meet
                                      case rel => exact ⟨_, (false), (by first | rfl | (simp; done) | (simp [*]; done)), H', ⟨by have := HK1.out; have := HK2.out; first | omega | exact Nat.le_refl _⟩, ⟨by (with_reducible repeat (first | refine blk_drewN ?_ _ | refine blk_drew ?_ | refine blk_alloc ?_ _)); refine blk_far ?_ NB111_113.out _; (with_reducible repeat (first | refine blk_drewN ?_ _ | refine blk_drew ?_ | refine blk_alloc ?_ _)); refine blk_far ?_ NB111_113.out _; (with_reducible repeat (first | refine blk_drewN ?_ _ | refine blk_drew ?_ | refine blk_alloc ?_ _)); refine blk_far ?_ NB111_113.out _; (with_reducible repeat (first | refine blk_drewN ?_ _ | refine blk_drew ?_ | refine blk_alloc ?_ _)); refine blk_far ?_ NB111_113.out _; (with_reducible repeat (first | refine blk_drewN ?_ _ | refine blk_drew ?_ | refine blk_alloc ?_ _)); refine blk_far ?_ NB111_113.out _; (with_reducible repeat (first | refine blk_drewN ?_ _ | refine blk_drew ?_ | refine blk_alloc ?_ _)); exact BK111.out⟩, ⟨by (with_reducible repeat (first | refine blk_drewN ?_ _ | refine blk_drew ?_ | refine blk_alloc ?_ _)); refine blk_put (cs := #[.int .i64 ((rd_T71 l0 x6_2).f0), .int .i64 ((rd_T71 l0 x6_2).f1), .slice A112_2 ((rd_T71 l0 x6_2).f2).length c112_2, .int .i64 ((rd_T71 l0 x6_2).f3), .int .i64 0]) ?_ 4 _ rfl; (with_reducible repeat (first | refine blk_drewN ?_ _ | refine blk_drew ?_ | refine blk_alloc ?_ _)); refine blk_put (cs := #[.int .i64 ((rd_T71 l0 x6_2).f0), .int .i64 ((rd_T71 l0 x6_2).f1), .slice A112_2 ((rd_T71 l0 x6_2).f2).length c112_2, .int .i64 0, .int .i64 0]) ?_ 3 _ rfl; (with_reducible repeat (first | refine blk_drewN ?_ _ | refine blk_drew ?_ | refine blk_alloc ?_ _)); refine blk_put (cs := #[.int .i64 ((rd_T71 l0 x6_2).f0), .int .i64 ((rd_T71 l0 x6_2).f1), .slice none 0 0, .int .i64 0, .int .i64 0]) ?_ 2 _ rfl; (with_reducible repeat (first | refine blk_drewN ?_ _ | refine blk_drew ?_ | refine blk_alloc ?_ _)); refine blk_put (cs := #[.int .i64 ((rd_T71 l0 x6_2).f0), .int .i64 0, .slice none 0 0, .int .i64 0, .int .i64 0]) ?_ 1 _ rfl; (with_reducible repeat (first | refine blk_drewN ?_ _ | refine blk_drew ?_ | refine blk_alloc ?_ _)); refine blk_put (cs := #[.int .i64 0, .int .i64 0, .slice none 0 0, .int .i64 0, .int .i64 0]) ?_ 0 _ rfl; (with_reducible repeat (first | refine blk_drewN ?_ _ | refine blk_drew ?_ | refine blk_alloc ?_ _)); exact BK113.out⟩, ⟨by repeat (first | (with_reducible first | exact HB.out | apply below_alloc | apply pw_below_drewN | apply below_drew1 | refine below_set ?_ GE111.out | refine below_set ?_ GE113.out) | exact HB.out)⟩⟩
                                  · rw [if_neg c20] at H
                                    have c20b0 : (((rd_T71 l0 x5_1).f3) == ((rd_T71 l0 x6_2).f3)) = false := beq_eq_false_iff_ne.mpr c20
                                    have c20b1 : (((rd_T71 l0 x5_1).f3) != ((rd_T71 l0 x6_2).f3)) = true := bne_iff_ne.mpr c20
                                    have H' := Aside0.mk H
                                    clear H
                                    have hnb38 := NB111_113.out
                                    have hnc38 := NB113_111.out
                                    have hcz39_0 : w15.cell? ⟨gb111, 0, none⟩ = some (.int .i64 ((rd_T71 l0 x5_1).f0)) := (blk_cell BK111.out 0).trans rfl
                                    have hcz39_1 : w15.cell? ⟨gb111, 1, none⟩ = some (.int .i64 ((rd_T71 l0 x5_1).f1)) := (blk_cell BK111.out 1).trans rfl
                                    have hcz39_2 : w15.cell? ⟨gb111, 2, none⟩ = some (.slice A110_2 ((rd_T71 l0 x5_1).f2).length c110_2) := (blk_cell BK111.out 2).trans rfl
                                    have hcz39_3 : w15.cell? ⟨gb111, 3, none⟩ = some (.int .i64 ((rd_T71 l0 x5_1).f3)) := (blk_cell BK111.out 3).trans rfl
                                    have hcz39_4 : w15.cell? ⟨gb111, 4, none⟩ = some (.int .i64 ((rd_T71 l0 x5_1).f4)) := (blk_cell BK111.out 4).trans rfl
                                    have hfz39_0 := blk_frozen BK111.out 0
                                    have hfz39_1 := blk_frozen BK111.out 1
                                    have hfz39_2 := blk_frozen BK111.out 2
                                    have hfz39_3 := blk_frozen BK111.out 3
                                    have hfz39_4 := blk_frozen BK111.out 4
                                    have hcz40_0 : w15.cell? ⟨gb113, 0, none⟩ = some (.int .i64 0) := (blk_cell BK113.out 0).trans rfl
                                    have hcz40_1 : w15.cell? ⟨gb113, 1, none⟩ = some (.int .i64 0) := (blk_cell BK113.out 1).trans rfl
                                    have hcz40_2 : w15.cell? ⟨gb113, 2, none⟩ = some (.slice none 0 0) := (blk_cell BK113.out 2).trans rfl
                                    have hcz40_3 : w15.cell? ⟨gb113, 3, none⟩ = some (.int .i64 0) := (blk_cell BK113.out 3).trans rfl
                                    have hcz40_4 : w15.cell? ⟨gb113, 4, none⟩ = some (.int .i64 0) := (blk_cell BK113.out 4).trans rfl
                                    have hfz40_0 := blk_frozen BK113.out 0
                                    have hfz40_1 := blk_frozen BK113.out 1
                                    have hfz40_2 := blk_frozen BK113.out 2
                                    have hfz40_3 := blk_frozen BK113.out 3
                                    have hfz40_4 := blk_frozen BK113.out 4
                                    go_wp2
                                    repeat (go_quiet (fail); try go_wp2)
                                    go_meet
                                    case rel => exact ⟨_, (false), (by first | rfl | (simp; done) | (simp [*]; done)), H', ⟨by have := HK1.out; have := HK2.out; first | omega | exact Nat.le_refl _⟩, ⟨by (with_reducible repeat (first | refine blk_drewN ?_ _ | refine blk_drew ?_ | refine blk_alloc ?_ _)); refine blk_far ?_ NB111_113.out _; (with_reducible repeat (first | refine blk_drewN ?_ _ | refine blk_drew ?_ | refine blk_alloc ?_ _)); refine blk_far ?_ NB111_113.out _; (with_reducible repeat (first | refine blk_drewN ?_ _ | refine blk_drew ?_ | refine blk_alloc ?_ _)); refine blk_far ?_ NB111_113.out _; (with_reducible repeat (first | refine blk_drewN ?_ _ | refine blk_drew ?_ | refine blk_alloc ?_ _)); refine blk_far ?_ NB111_113.out _; (with_reducible repeat (first | refine blk_drewN ?_ _ | refine blk_drew ?_ | refine blk_alloc ?_ _)); refine blk_far ?_ NB111_113.out _; (with_reducible repeat (first | refine blk_drewN ?_ _ | refine blk_drew ?_ | refine blk_alloc ?_ _)); exact BK111.out⟩, ⟨by (with_reducible repeat (first | refine blk_drewN ?_ _ | refine blk_drew ?_ | refine blk_alloc ?_ _)); refine blk_put (cs := #[.int .i64 ((rd_T71 l0 x6_2).f0), .int .i64 ((rd_T71 l0 x6_2).f1), .slice A112_2 ((rd_T71 l0 x6_2).f2).length c112_2, .int .i64 ((rd_T71 l0 x6_2).f3), .int .i64 0]) ?_ 4 _ rfl; (with_reducible repeat (first | refine blk_drewN ?_ _ | refine blk_drew ?_ | refine blk_alloc ?_ _)); refine blk_put (cs := #[.int .i64 ((rd_T71 l0 x6_2).f0), .int .i64 ((rd_T71 l0 x6_2).f1), .slice A112_2 ((rd_T71 l0 x6_2).f2).length c112_2, .int .i64 0, .int .i64 0]) ?_ 3 _ rfl; (with_reducible repeat (first | refine blk_drewN ?_ _ | refine blk_drew ?_ | refine blk_alloc ?_ _)); refine blk_put (cs := #[.int .i64 ((rd_T71 l0 x6_2).f0), .int .i64 ((rd_T71 l0 x6_2).f1), .slice none 0 0, .int .i64 0, .int .i64 0]) ?_ 2 _ rfl; (with_reducible repeat (first | refine blk_drewN ?_ _ | refine blk_drew ?_ | refine blk_alloc ?_ _)); refine blk_put (cs := #[.int .i64 ((rd_T71 l0 x6_2).f0), .int .i64 0, .slice none 0 0, .int .i64 0, .int .i64 0]) ?_ 1 _ rfl; (with_reducible repeat (first | refine blk_drewN ?_ _ | refine blk_drew ?_ | refine blk_alloc ?_ _)); refine blk_put (cs := #[.int .i64 0, .int .i64 0, .slice none 0 0, .int .i64 0, .int .i64 0]) ?_ 0 _ rfl; (with_reducible repeat (first | refine blk_drewN ?_ _ | refine blk_drew ?_ | refine blk_alloc ?_ _)); exact BK113.out⟩, ⟨by repeat (first | (with_reducible first | exact HB.out | apply below_alloc | apply pw_below_drewN | apply below_drew1 | refine below_set ?_ GE111.out | refine below_set ?_ GE113.out) | exact HB.out)⟩⟩
                                · rw [if_neg c19] at H
                                  have c19b0 : ((((rd_T71 l0 x5_1).f2).length : Int) == (((rd_T71 l0 x6_2).f2).length : Int)) = false := beq_eq_false_iff_ne.mpr c19
                                  have c19b1 : ((((rd_T71 l0 x5_1).f2).length : Int) != (((rd_T71 l0 x6_2).f2).length : Int)) = true := bne_iff_ne.mpr c19
                                  have c19b2 : (((rd_T71 l0 x5_1).f2).length == ((rd_T71 l0 x6_2).f2).length) = false := by first | simpa using c19 | (simp at c19 ⊢; omega)
                                  have H' := Aside0.mk H
                                  clear H
                                  have hnb41 := NB111_113.out
                                  have hnc41 := NB113_111.out
                                  have hcz42_0 : w15.cell? ⟨gb111, 0, none⟩ = some (.int .i64 ((rd_T71 l0 x5_1).f0)) := (blk_cell BK111.out 0).trans rfl
                                  have hcz42_1 : w15.cell? ⟨gb111, 1, none⟩ = some (.int .i64 ((rd_T71 l0 x5_1).f1)) := (blk_cell BK111.out 1).trans rfl
                                  have hcz42_2 : w15.cell? ⟨gb111, 2, none⟩ = some (.slice A110_2 ((rd_T71 l0 x5_1).f2).length c110_2) := (blk_cell BK111.out 2).trans rfl
                                  have hcz42_3 : w15.cell? ⟨gb111, 3, none⟩ = some (.int .i64 ((rd_T71 l0 x5_1).f3)) := (blk_cell BK111.out 3).trans rfl
                                  have hcz42_4 : w15.cell? ⟨gb111, 4, none⟩ = some (.int .i64 ((rd_T71 l0 x5_1).f4)) := (blk_cell BK111.out 4).trans rfl
                                  have hfz42_0 := blk_frozen BK111.out 0
                                  have hfz42_1 := blk_frozen BK111.out 1
                                  have hfz42_2 := blk_frozen BK111.out 2
                                  have hfz42_3 := blk_frozen BK111.out 3
                                  have hfz42_4 := blk_frozen BK111.out 4
                                  have hcz43_0 : w15.cell? ⟨gb113, 0, none⟩ = some (.int .i64 0) := (blk_cell BK113.out 0).trans rfl
                                  have hcz43_1 : w15.cell? ⟨gb113, 1, none⟩ = some (.int .i64 0) := (blk_cell BK113.out 1).trans rfl
                                  have hcz43_2 : w15.cell? ⟨gb113, 2, none⟩ = some (.slice none 0 0) := (blk_cell BK113.out 2).trans rfl
                                  have hcz43_3 : w15.cell? ⟨gb113, 3, none⟩ = some (.int .i64 0) := (blk_cell BK113.out 3).trans rfl
                                  have hcz43_4 : w15.cell? ⟨gb113, 4, none⟩ = some (.int .i64 0) := (blk_cell BK113.out 4).trans rfl
                                  have hfz43_0 := blk_frozen BK113.out 0
                                  have hfz43_1 := blk_frozen BK113.out 1
                                  have hfz43_2 := blk_frozen BK113.out 2
                                  have hfz43_3 := blk_frozen BK113.out 3
                                  have hfz43_4 := blk_frozen BK113.out 4
                                  go_wp2
                                  repeat (go_quiet (fail); try go_wp2)
                                  go_meet
                                  case rel => exact ⟨_, (false), (by first | rfl | (simp; done) | (simp [*]; done)), H', ⟨by have := HK1.out; have := HK2.out; first | omega | exact Nat.le_refl _⟩, ⟨by (with_reducible repeat (first | refine blk_drewN ?_ _ | refine blk_drew ?_ | refine blk_alloc ?_ _)); refine blk_far ?_ NB111_113.out _; (with_reducible repeat (first | refine blk_drewN ?_ _ | refine blk_drew ?_ | refine blk_alloc ?_ _)); refine blk_far ?_ NB111_113.out _; (with_reducible repeat (first | refine blk_drewN ?_ _ | refine blk_drew ?_ | refine blk_alloc ?_ _)); refine blk_far ?_ NB111_113.out _; (with_reducible repeat (first | refine blk_drewN ?_ _ | refine blk_drew ?_ | refine blk_alloc ?_ _)); refine blk_far ?_ NB111_113.out _; (with_reducible repeat (first | refine blk_drewN ?_ _ | refine blk_drew ?_ | refine blk_alloc ?_ _)); refine blk_far ?_ NB111_113.out _; (with_reducible repeat (first | refine blk_drewN ?_ _ | refine blk_drew ?_ | refine blk_alloc ?_ _)); exact BK111.out⟩, ⟨by (with_reducible repeat (first | refine blk_drewN ?_ _ | refine blk_drew ?_ | refine blk_alloc ?_ _)); refine blk_put (cs := #[.int .i64 ((rd_T71 l0 x6_2).f0), .int .i64 ((rd_T71 l0 x6_2).f1), .slice A112_2 ((rd_T71 l0 x6_2).f2).length c112_2, .int .i64 ((rd_T71 l0 x6_2).f3), .int .i64 0]) ?_ 4 _ rfl; (with_reducible repeat (first | refine blk_drewN ?_ _ | refine blk_drew ?_ | refine blk_alloc ?_ _)); refine blk_put (cs := #[.int .i64 ((rd_T71 l0 x6_2).f0), .int .i64 ((rd_T71 l0 x6_2).f1), .slice A112_2 ((rd_T71 l0 x6_2).f2).length c112_2, .int .i64 0, .int .i64 0]) ?_ 3 _ rfl; (with_reducible repeat (first | refine blk_drewN ?_ _ | refine blk_drew ?_ | refine blk_alloc ?_ _)); refine blk_put (cs := #[.int .i64 ((rd_T71 l0 x6_2).f0), .int .i64 ((rd_T71 l0 x6_2).f1), .slice none 0 0, .int .i64 0, .int .i64 0]) ?_ 2 _ rfl; (with_reducible repeat (first | refine blk_drewN ?_ _ | refine blk_drew ?_ | refine blk_alloc ?_ _)); refine blk_put (cs := #[.int .i64 ((rd_T71 l0 x6_2).f0), .int .i64 0, .slice none 0 0, .int .i64 0, .int .i64 0]) ?_ 1 _ rfl; (with_reducible repeat (first | refine blk_drewN ?_ _ | refine blk_drew ?_ | refine blk_alloc ?_ _)); refine blk_put (cs := #[.int .i64 0, .int .i64 0, .slice none 0 0, .int .i64 0, .int .i64 0]) ?_ 0 _ rfl; (with_reducible repeat (first | refine blk_drewN ?_ _ | refine blk_drew ?_ | refine blk_alloc ?_ _)); exact BK113.out⟩, ⟨by repeat (first | (with_reducible first | exact HB.out | apply below_alloc | apply pw_below_drewN | apply below_drew1 | refine below_set ?_ GE111.out | refine below_set ?_ GE113.out) | exact HB.out)⟩⟩
                              · rw [if_neg c18] at H
                                have c18b0 : (((rd_T71 l0 x5_1).f0) == ((rd_T71 l0 x6_2).f0)) = false := beq_eq_false_iff_ne.mpr c18
                                have c18b1 : (((rd_T71 l0 x5_1).f0) != ((rd_T71 l0 x6_2).f0)) = true := bne_iff_ne.mpr c18
                                (first | rw [c18b0] | (simp only [i64_w, i32_w]; rw [c18b0]) | skip)
                                have H' := Aside0.mk H
                                clear H
                                have hnb44 := NB111_113.out
                                have hnc44 := NB113_111.out
                                have hcz45_0 : w15.cell? ⟨gb111, 0, none⟩ = some (.int .i64 ((rd_T71 l0 x5_1).f0)) := (blk_cell BK111.out 0).trans rfl
                                have hcz45_1 : w15.cell? ⟨gb111, 1, none⟩ = some (.int .i64 ((rd_T71 l0 x5_1).f1)) := (blk_cell BK111.out 1).trans rfl
                                have hcz45_2 : w15.cell? ⟨gb111, 2, none⟩ = some (.slice A110_2 ((rd_T71 l0 x5_1).f2).length c110_2) := (blk_cell BK111.out 2).trans rfl
                                have hcz45_3 : w15.cell? ⟨gb111, 3, none⟩ = some (.int .i64 ((rd_T71 l0 x5_1).f3)) := (blk_cell BK111.out 3).trans rfl
                                have hcz45_4 : w15.cell? ⟨gb111, 4, none⟩ = some (.int .i64 ((rd_T71 l0 x5_1).f4)) := (blk_cell BK111.out 4).trans rfl
                                have hfz45_0 := blk_frozen BK111.out 0
                                have hfz45_1 := blk_frozen BK111.out 1
                                have hfz45_2 := blk_frozen BK111.out 2
                                have hfz45_3 := blk_frozen BK111.out 3
                                have hfz45_4 := blk_frozen BK111.out 4
                                have hcz46_0 : w15.cell? ⟨gb113, 0, none⟩ = some (.int .i64 0) := (blk_cell BK113.out 0).trans rfl
                                have hcz46_1 : w15.cell? ⟨gb113, 1, none⟩ = some (.int .i64 0) := (blk_cell BK113.out 1).trans rfl
                                have hcz46_2 : w15.cell? ⟨gb113, 2, none⟩ = some (.slice none 0 0) := (blk_cell BK113.out 2).trans rfl
                                have hcz46_3 : w15.cell? ⟨gb113, 3, none⟩ = some (.int .i64 0) := (blk_cell BK113.out 3).trans rfl
                                have hcz46_4 : w15.cell? ⟨gb113, 4, none⟩ = some (.int .i64 0) := (blk_cell BK113.out 4).trans rfl
                                have hfz46_0 := blk_frozen BK113.out 0
                                have hfz46_1 := blk_frozen BK113.out 1
                                have hfz46_2 := blk_frozen BK113.out 2
                                have hfz46_3 := blk_frozen BK113.out 3
                                have hfz46_4 := blk_frozen BK113.out 4
                                go_wp2
                                repeat (go_quiet (fail); try go_wp2)
                                go_meet
                                case rel => exact ⟨_, (false), (by first | rfl | (simp; done) | (simp [*]; done)), H', ⟨by have := HK1.out; have := HK2.out; first | omega | exact Nat.le_refl _⟩, ⟨by (with_reducible repeat (first | refine blk_drewN ?_ _ | refine blk_drew ?_ | refine blk_alloc ?_ _)); refine blk_far ?_ NB111_113.out _; (with_reducible repeat (first | refine blk_drewN ?_ _ | refine blk_drew ?_ | refine blk_alloc ?_ _)); refine blk_far ?_ NB111_113.out _; (with_reducible repeat (first | refine blk_drewN ?_ _ | refine blk_drew ?_ | refine blk_alloc ?_ _)); refine blk_far ?_ NB111_113.out _; (with_reducible repeat (first | refine blk_drewN ?_ _ | refine blk_drew ?_ | refine blk_alloc ?_ _)); refine blk_far ?_ NB111_113.out _; (with_reducible repeat (first | refine blk_drewN ?_ _ | refine blk_drew ?_ | refine blk_alloc ?_ _)); refine blk_far ?_ NB111_113.out _; (with_reducible repeat (first | refine blk_drewN ?_ _ | refine blk_drew ?_ | refine blk_alloc ?_ _)); exact BK111.out⟩, ⟨by (with_reducible repeat (first | refine blk_drewN ?_ _ | refine blk_drew ?_ | refine blk_alloc ?_ _)); refine blk_put (cs := #[.int .i64 ((rd_T71 l0 x6_2).f0), .int .i64 ((rd_T71 l0 x6_2).f1), .slice A112_2 ((rd_T71 l0 x6_2).f2).length c112_2, .int .i64 ((rd_T71 l0 x6_2).f3), .int .i64 0]) ?_ 4 _ rfl; (with_reducible repeat (first | refine blk_drewN ?_ _ | refine blk_drew ?_ | refine blk_alloc ?_ _)); refine blk_put (cs := #[.int .i64 ((rd_T71 l0 x6_2).f0), .int .i64 ((rd_T71 l0 x6_2).f1), .slice A112_2 ((rd_T71 l0 x6_2).f2).length c112_2, .int .i64 0, .int .i64 0]) ?_ 3 _ rfl; (with_reducible repeat (first | refine blk_drewN ?_ _ | refine blk_drew ?_ | refine blk_alloc ?_ _)); refine blk_put (cs := #[.int .i64 ((rd_T71 l0 x6_2).f0), .int .i64 ((rd_T71 l0 x6_2).f1), .slice none 0 0, .int .i64 0, .int .i64 0]) ?_ 2 _ rfl; (with_reducible repeat (first | refine blk_drewN ?_ _ | refine blk_drew ?_ | refine blk_alloc ?_ _)); refine blk_put (cs := #[.int .i64 ((rd_T71 l0 x6_2).f0), .int .i64 0, .slice none 0 0, .int .i64 0, .int .i64 0]) ?_ 1 _ rfl; (with_reducible repeat (first | refine blk_drewN ?_ _ | refine blk_drew ?_ | refine blk_alloc ?_ _)); refine blk_put (cs := #[.int .i64 0, .int .i64 0, .slice none 0 0, .int .i64 0, .int .i64 0]) ?_ 0 _ rfl; (with_reducible repeat (first | refine blk_drewN ?_ _ | refine blk_drew ?_ | refine blk_alloc ?_ _)); exact BK113.out⟩, ⟨by repeat (first | (with_reducible first | exact HB.out | apply below_alloc | apply pw_below_drewN | apply below_drew1 | refine below_set ?_ GE111.out | refine below_set ?_ GE113.out) | exact HB.out)⟩⟩
                            case rest =>
                              clear HC12
                              try clear c1
                              try clear p1
                              try clear q1
                              try clear hx1
                              try clear c2
                              try clear p2
                              try clear c3
                              try clear c4
                              try clear c11
                              try clear p11
                              try clear q11
                              try clear hx11
                              try clear c16
                              try clear c18
                              try clear c18b0
                              try clear c18b1
                              try clear c19
                              try clear c19b0
                              try clear c19b1
                              try clear c19b2
                              try clear c20
                              try clear c20b0
                              try clear c20b1
                              try clear c21
                              try clear c21b0
                              try clear c22
                              try clear c22b0
                              try clear c23
                              try clear c23b0
                              try clear c24
                              try clear c24b0
                              try clear c25
                              try clear c25b0
                              try clear c26
                              try clear c29
                              try clear c32
                              try clear c35
                              try clear c38
                              try clear c41
                              try clear c44
                              try clear hcz14_0
                              try clear hcz14_1
                              try clear hcz14_2
                              try clear hcz14_3
                              try clear hcz14_4
                              try clear hcz17_0
                              try clear hcz17_1
                              try clear hcz17_2
                              try clear hcz17_3
                              try clear hcz17_4
                              try clear hcz27_0
                              try clear hcz27_1
                              try clear hcz27_2
                              try clear hcz27_3
                              try clear hcz27_4
                              try clear hcz28_0
                              try clear hcz28_1
                              try clear hcz28_2
                              try clear hcz28_3
                              try clear hcz28_4
                              try clear hcz30_0
                              try clear hcz30_1
                              try clear hcz30_2
                              try clear hcz30_3
                              try clear hcz30_4
                              try clear hcz31_0
                              try clear hcz31_1
                              try clear hcz31_2
                              try clear hcz31_3
                              try clear hcz31_4
                              try clear hcz33_0
                              try clear hcz33_1
                              try clear hcz33_2
                              try clear hcz33_3
                              try clear hcz33_4
                              try clear hcz34_0
                              try clear hcz34_1
                              try clear hcz34_2
                              try clear hcz34_3
                              try clear hcz34_4
                              try clear hcz36_0
                              try clear hcz36_1
                              try clear hcz36_2
                              try clear hcz36_3
                              try clear hcz36_4
                              try clear hcz37_0
                              try clear hcz37_1
                              try clear hcz37_2
                              try clear hcz37_3
                              try clear hcz37_4
                              try clear hcz39_0
                              try clear hcz39_1
                              try clear hcz39_2
                              try clear hcz39_3
                              try clear hcz39_4
                              try clear hcz40_0
                              try clear hcz40_1
                              try clear hcz40_2
                              try clear hcz40_3
                              try clear hcz40_4
                              try clear hcz42_0
                              try clear hcz42_1
                              try clear hcz42_2
                              try clear hcz42_3
                              try clear hcz42_4
                              try clear hcz43_0
                              try clear hcz43_1
                              try clear hcz43_2
                              try clear hcz43_3
                              try clear hcz43_4
                              try clear hcz45_0
                              try clear hcz45_1
                              try clear hcz45_2
                              try clear hcz45_3
                              try clear hcz45_4
                              try clear hcz46_0
                              try clear hcz46_1
                              try clear hcz46_2
                              try clear hcz46_3
                              try clear hcz46_4
                              try clear hfz14_0
                              try clear hfz14_1
                              try clear hfz14_2
                              try clear hfz14_3
                              try clear hfz14_4
                              try clear hfz17_0
                              try clear hfz17_1
                              try clear hfz17_2
                              try clear hfz17_3
                              try clear hfz17_4
                              try clear hfz27_0
                              try clear hfz27_1
                              try clear hfz27_2
                              try clear hfz27_3
                              try clear hfz27_4
                              try clear hfz28_0
                              try clear hfz28_1
                              try clear hfz28_2
                              try clear hfz28_3
                              try clear hfz28_4
                              try clear hfz30_0
                              try clear hfz30_1
                              try clear hfz30_2
                              try clear hfz30_3
                              try clear hfz30_4
                              try clear hfz31_0
                              try clear hfz31_1
                              try clear hfz31_2
                              try clear hfz31_3
                              try clear hfz31_4
                              try clear hfz33_0
                              try clear hfz33_1
                              try clear hfz33_2
                              try clear hfz33_3
                              try clear hfz33_4
                              try clear hfz34_0
                              try clear hfz34_1
                              try clear hfz34_2
                              try clear hfz34_3
                              try clear hfz34_4
                              try clear hfz36_0
                              try clear hfz36_1
                              try clear hfz36_2
                              try clear hfz36_3
                              try clear hfz36_4
                              try clear hfz37_0
                              try clear hfz37_1
                              try clear hfz37_2
                              try clear hfz37_3
                              try clear hfz37_4
                              try clear hfz39_0
                              try clear hfz39_1
                              try clear hfz39_2
                              try clear hfz39_3
                              try clear hfz39_4
                              try clear hfz40_0
                              try clear hfz40_1
                              try clear hfz40_2
                              try clear hfz40_3
                              try clear hfz40_4
                              try clear hfz42_0
                              try clear hfz42_1
                              try clear hfz42_2
                              try clear hfz42_3
                              try clear hfz42_4
                              try clear hfz43_0
                              try clear hfz43_1
                              try clear hfz43_2
                              try clear hfz43_3
                              try clear hfz43_4
                              try clear hfz45_0
                              try clear hfz45_1
                              try clear hfz45_2
                              try clear hfz45_3
                              try clear hfz45_4
                              try clear hfz46_0
                              try clear hfz46_1
                              try clear hfz46_2
                              try clear hfz46_3
                              try clear hfz46_4
                              try clear hx112_0
                              try clear hx112_1
                              try clear hx112_2
                              try clear hx112_3
                              try clear hx112_4
                              try clear hx114_0
                              try clear hx114_1
                              try clear hx114_2
                              try clear hx114_3
                              try clear hx115_0
                              try clear hx115_1
                              try clear hx115_2
                              try clear hx115_3
                              try clear hx116_0
                              try clear hx116_1
                              try clear hx116_2
                              try clear hx116_3
                              try clear hx117_0
                              try clear hx117_1
                              try clear hx117_2
                              try clear hx117_3
                              try clear p110
                              try clear p112
                              try clear p114
                              try clear p115
                              try clear p116
                              try clear p117
                              try clear q110
                              try clear q112
                              try clear q114
                              try clear q115
                              try clear q116
                              try clear q117
                              obtain ⟨kq, x97_11, rfl, HA, HJ11, BK111, BK113, HB⟩ := hcut
                              cases kq with
                              | zero => exact absurd HA.out (by simp [spec_Fair.j2])
                              | succ kj11 =>
                                have H := HA.out
                                clear HA
                                simp only [spec_Fair.j2] at H
                                by_cases c47 : x97_11 = true
                                · subst c47
                                  have H1 : (some false) = some r := by rw [if_pos rfl] at H; exact H
                                  clear H
                                  have H := H1
                                  clear H1
                                  obtain rfl := Option.some.inj H
                                  go_wp2
                                  repeat (go_quiet (fail); try go_wp2)
                                  go_ret
                                  exact ⟨by first | rfl | (simp [errW_none, errW_some] <;> rfl) | (simp [*, errW_none, errW_some] <;> rfl), by repeat (first | (with_reducible first | exact HB.out | apply below_alloc | apply pw_below_drewN | apply below_drew1 | refine below_set ?_ GE111.out | refine below_set ?_ GE113.out) | exact HB.out)⟩
                                · replace c47 := Bool.eq_false_iff.mpr c47
                                  subst c47
                                  have H1 : (spec_Fair.l1 kj11 l0 l1 x5_1 (wrap64 (x6_2 + 1))) = some r := by rw [if_neg (show ¬ (false = true) by decide)] at H; exact H
                                  clear H
                                  have H := H1
                                  clear H1
                                  have H' := Aside0.mk H
                                  clear H
                                  go_wp2
                                  repeat (go_quiet (fail); try go_wp2)
                                  go_roundg kj11
                                  case measure => have := HK1.out; have := HK2.out; have := HJ11.out; omega
                                  case rel => exact ⟨(wrap64 (x6_2 + 1)), (by first | rfl | (simp; done) | (simp [*]; done)), H', ⟨by have := HK1.out; have := HK2.out; have := HJ11.out; omega⟩, ⟨by repeat (first | (with_reducible first | exact HB.out | apply below_alloc | apply pw_below_drewN | apply below_drew1 | refine below_set ?_ GE111.out | refine below_set ?_ GE113.out) | exact HB.out)⟩⟩
                          · rw [if_neg c11] at H
                            exact absurd H (by simp)
                        · rw [if_neg c10] at H
                          exact absurd H (by simp)
                      · rw [if_neg c9] at H
                        exact absurd H (by simp)
                    · rw [if_neg c8] at H
                      have c8b0 : decide (x6_2 < (l0.length : Int)) = false := decide_eq_false c8
                      clear c8
                      have H' := Aside0.mk H
                      clear H
                      go_wp2
                      repeat (go_quiet (fail); try go_wp2)
                      go_roundg k2
                      case measure => have := HK1.out; have := HK2.out; omega
                      case rel => exact ⟨(wrap64 (x5_1 + 1)), (by first | rfl | (simp; done) | (simp [*]; done)), H', ⟨by have := HK1.out; have := HK2.out; omega⟩, ⟨by repeat (first | (with_reducible first | exact HB.out | apply below_alloc | apply pw_below_drewN | apply below_drew1) | exact HB.out)⟩⟩
              · rw [if_neg c7] at H
                have c7b0 : (((rd_T70 l1 x5_1).f0) == x5_1) = false := beq_eq_false_iff_ne.mpr c7
                have c7b1 : (((rd_T70 l1 x5_1).f0) != x5_1) = true := bne_iff_ne.mpr c7
                obtain rfl := Option.some.inj H
                have p109 : 0 ≤ (x5_1 : Int) := of_decide_eq_true (by first | (with_reducible assumption) | assumption)
                have q109 : x5_1 < (l1.length : Int) := of_decide_eq_true (by first | (with_reducible assumption) | assumption)
                obtain ⟨ad109, A109_2, c109_2, e109, hx109_0, hx109_1, hx109_2, hx109_3, hl109_2, hi109_2⟩ := at_T70 HR1.out x5_1 p109 q109
                cases e109
                replace hx109_0 := (HB.out.cell (World.block_lt_of_cell? w _ hx109_0)).trans hx109_0
                replace hx109_1 := (HB.out.cell (World.block_lt_of_cell? w _ hx109_1)).trans hx109_1
                replace hx109_2 := (HB.out.cell (World.block_lt_of_cell? w _ hx109_2)).trans hx109_2
                replace hx109_3 := (HB.out.cell (World.block_lt_of_cell? w _ hx109_3)).trans hx109_3
                have HR109_2 := Aside0.mk hi109_2
                have HC109_2 := Aside0.mk hl109_2
                clear hi109_2 hl109_2
                replace p109 := eq_true p109
                replace q109 := eq_true q109
                go_wp2
                repeat (go_quiet (fail); try go_wp2)
                go_ret
                exact ⟨by first | rfl | (simp [errW_none, errW_some] <;> rfl) | (simp [*, errW_none, errW_some] <;> rfl), by repeat (first | (with_reducible first | exact HB.out | apply below_alloc | apply pw_below_drewN | apply below_drew1) | exact HB.out)⟩
            · rw [if_neg c6] at H
              exact absurd H (by simp)
          · rw [if_neg c5] at H
            exact absurd H (by simp)
        · rw [if_neg c4] at H
          have c4b0 : decide (x5_1 < (l0.length : Int)) = false := decide_eq_false c4
          clear c4
          obtain rfl := Option.some.inj H
          go_wp2
          repeat (go_quiet (fail); try go_wp2)
          go_ret
          exact ⟨by first | rfl | (simp [errW_none, errW_some] <;> rfl) | (simp [*, errW_none, errW_some] <;> rfl), by repeat (first | (with_reducible first | exact HB.out | apply below_alloc | apply pw_below_drewN | apply below_drew1) | exact HB.out)⟩
  · rw [if_neg c3] at H
    have c3b0 : ((l0.length : Int) == (l1.length : Int)) = false := beq_eq_false_iff_ne.mpr c3
    have c3b1 : ((l0.length : Int) != (l1.length : Int)) = true := bne_iff_ne.mpr c3
    have c3b2 : (l0.length == l1.length) = false := by first | simpa using c3 | (simp at c3 ⊢; omega)
    obtain rfl := Option.some.inj H
    go_enter Try.func11, Try.ntmps11
    go_wp2
    repeat (go_quiet (fail); try go_wp2)
    go_ret
    exact ⟨by first | rfl | (simp [errW_none, errW_some] <;> rfl) | (simp [*, errW_none, errW_some] <;> rfl), by repeat (first | (with_reducible first | exact HB.out | apply below_alloc | apply pw_below_drewN | apply below_drew1) | exact HB.out)⟩

end Go.Proofs.Ytpoblnigmfbnfaa.PFnExactFair
