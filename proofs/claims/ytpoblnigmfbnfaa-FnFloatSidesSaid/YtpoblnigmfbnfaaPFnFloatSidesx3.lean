-- Printed out of the translation, hand-written contracts beside it; checked by the kernel alone.
import Derived.Test.YtpoblnigmfbnfaaPFnFloatSidesx0
import Derived.Test.YtpoblnigmfbnfaaPFnFloatSidesx1
import Derived.Test.YtpoblnigmfbnfaaPFnFloatSidesx2
namespace Go.Proofs.Ytpoblnigmfbnfaa.PFnFloatSides
open Go.RowKit Go.Proofs.YtpoblnigmfbnfaaW.PrintWords Go.Proofs.YtpoblnigmfbnfaaW.PrintLast Go.Proofs.YtpoblnigmfbnfaaW.PrintMore
attribute [local go_sem] max2_int min2_int max_two min_two max_three min_three max_four min_four   -- for this text's walks alone
set_option linter.unusedVariables false
set_option linter.unusedSimpArgs false

/-! ### spec_l2Open: function 105 -/
mutual
def spec_l2Open.j0 : Nat → Int → Bool → Option (Int × Bool × Int × Int)
  | 0, _, _ => none
  | k + 1, x0, x11 => if x11 = true then (some (2, false, 0, 0)) else (if (Go.bits .and .i64 (x0 / 8388608) 255) = 255 then (spec_l2Open.j1 k (Go.bits .and .i64 (x0 / 8388608) 255) (Go.bits .and .i64 x0 8388607) ((Go.bits .and .i64 x0 8388607) != 0) 0 ((x0 / 2147483648) == 1) 0 0) else (spec_l2Open.j1 k (Go.bits .and .i64 (x0 / 8388608) 255) (Go.bits .and .i64 x0 8388607) false 0 ((x0 / 2147483648) == 1) 0 0))
def spec_l2Open.j1 : Nat → Int → Int → Bool → Int → Bool → Int → Int → Option (Int × Bool × Int × Int)
  | 0, _, _, _, _, _, _, _ => none
  | k + 1, x4, x5, x28, x171000, x171001, x171002, x171003 => if x28 = true then (some (2, x171001, x171002, x171003)) else (if x4 = 255 then (some (1, x171001, x171002, x171003)) else (if x4 = 0 then (some (x171000, x171001, x5, (-149))) else (some (x171000, x171001, wrap64 (x5 + 8388608), wrap64 (x4 - 150)))))
end
def spec_l2Open.f (k : Nat) (a0 : Int) : Option (Int × Bool × Int × Int) := if a0 < 0 then (spec_l2Open.j0 k a0 true) else (spec_l2Open.j0 k a0 (decide (a0 > 4294967295)))
theorem spec_l2Open.mono_l : ∀ k, (∀ y0 y1, LeO (spec_l2Open.j0 k y0 y1) (spec_l2Open.j0 (k + 1) y0 y1)) ∧ (∀ y0 y1 y2 y3 y4 y5 y6, LeO (spec_l2Open.j1 k y0 y1 y2 y3 y4 y5 y6) (spec_l2Open.j1 (k + 1) y0 y1 y2 y3 y4 y5 y6))
  | 0 => ⟨fun _ _ r h => by simp [spec_l2Open.j0] at h, fun _ _ _ _ _ _ _ r h => by simp [spec_l2Open.j1] at h⟩
  | k + 1 => by
    obtain ⟨ih0, ih1⟩ := spec_l2Open.mono_l k
    refine ⟨?_, ?_⟩
    · intro y0 y1
      unfold spec_l2Open.j0
      repeat' first
      | (with_reducible exact ih0 _ _)
      | (with_reducible exact ih1 _ _ _ _ _ _ _)
      | (with_reducible exact LeO.refl _)
      | (with_reducible exact LeO.none _)
      | (with_reducible refine LeO.ite ?_ ?_)
      | (with_reducible refine LeO.bind ?_ (fun _ => ?_))
      | exact ih0 _ _
      | exact ih1 _ _ _ _ _ _ _
      | exact LeO.none _
      | refine LeO.ite ?_ ?_
      | refine LeO.bind ?_ (fun _ => ?_)
    · intro y0 y1 y2 y3 y4 y5 y6
      unfold spec_l2Open.j1
      repeat' first
      | (with_reducible exact ih0 _ _)
      | (with_reducible exact ih1 _ _ _ _ _ _ _)
      | (with_reducible exact LeO.refl _)
      | (with_reducible exact LeO.none _)
      | (with_reducible refine LeO.ite ?_ ?_)
      | (with_reducible refine LeO.bind ?_ (fun _ => ?_))
      | exact ih0 _ _
      | exact ih1 _ _ _ _ _ _ _
      | exact LeO.none _
      | refine LeO.ite ?_ ?_
      | refine LeO.bind ?_ (fun _ => ?_)
theorem spec_l2Open.mono : ∀ a0 k, LeO (spec_l2Open.f k a0) (spec_l2Open.f (k + 1) a0) := by
  intro a0 k
  obtain ⟨ih0, ih1⟩ := spec_l2Open.mono_l k
  unfold spec_l2Open.f
  repeat' first
      | (with_reducible exact ih0 _ _)
      | (with_reducible exact ih1 _ _ _ _ _ _ _)
      | (with_reducible exact LeO.refl _)
      | (with_reducible exact LeO.none _)
      | (with_reducible refine LeO.ite ?_ ?_)
      | (with_reducible refine LeO.bind ?_ (fun _ => ?_))
      | exact ih0 _ _
      | exact ih1 _ _ _ _ _ _ _
      | exact LeO.none _
      | refine LeO.ite ?_ ?_
      | refine LeO.bind ?_ (fun _ => ?_)
set_option maxHeartbeats 8000000 in
set_option maxRecDepth 100000 in
theorem spec_l2Open.calls (k : Nat) (a0 : Int) (r1 : Int) (r2 : Bool) (r3 : Int) (r4 : Int) (w : World) (h : spec_l2Open.f k a0 = some (r1, r2, r3, r4)) :
    Calls Try.prog 105 #[.int .i64 a0] w fun e w' => e = .returned (.agg #[.int .i64 r1, .bool r2, .int .i64 r3, .int .i64 r4]) ∧ Below w.heap.size w w' := by
  have hu123 := Try.underlying123
  have HB := Aside0.mk (Below.refl w.heap.size w)
  have H : (if a0 < 0 then (spec_l2Open.j0 k a0 true) else (spec_l2Open.j0 k a0 (decide (a0 > 4294967295)))) = some (r1, r2, r3, r4) := h
  clear h
  have HC2 := Aside0.mk H
  clear H
  go_enter Try.func105, Try.ntmps105
  go_upto_region 1 with (first | ((with_reducible refine gate_dst (N := 2) rfl ?_); refine box_event ?hg (N := 2) ?hd (cs := #[.int .i64 0, .bool false, .int .i64 0, .int .i64 0]) (t := 123) ?hr ?_; (case hd => rfl); (case hg => rfl); (case hr => first | (go_simp; done) | (go_simp; rfl)); intro gb169 hg w3 hbox hb; have n0_ := Aside0.mk (below_step (by repeat (first | (with_reducible first | exact HB.out | apply below_alloc | apply pw_below_drewN | apply below_drew1) | exact HB.out)) hb); have n1_ := Aside0.mk (hbox); have n2_ := Aside0.mk ((by rw [hg]; exact (below_size (by repeat (first | (with_reducible first | exact HB.out | apply below_alloc | apply pw_below_drewN | apply below_drew1) | exact HB.out))) : w.heap.size ≤ gb169)); have n3_ := Aside0.mk ((by rw [hg]; exact (below_size (by repeat (first | (with_reducible first | exact HB.out | apply below_alloc | apply pw_below_drewN | apply below_drew1) | exact HB.out))) : w.heap.size ≤ gb169)); clear HB; have HB := n0_; have BK169 := n1_; have GW169 := n2_; have GE169 := n3_; clear n0_ n1_ n2_ n3_; clear hb hbox hg))
  (try simp only [Act.put, List.setIfInBounds_toArray, List.set_cons_zero, List.set_cons_succ])
  go_cut [11] (fun v11 wc => ∃ (kq : Nat) (x11_1 : Bool), v11 = .bool x11_1 ∧ Aside0 (spec_l2Open.j0 kq a0 x11_1 = some (r1, r2, r3, r4)) ∧ Aside0 (kq ≤ k) ∧ Aside0 (wc.heap[gb169]? = some (.cells #[.int .i64 0, .bool false, .int .i64 0, .int .i64 0] 123 (0, 0))) ∧ Aside0 (Below w.heap.size w wc))
  case first =>
    have H := HC2.out
    clear HC2
    by_cases c4 : a0 < 0
    · rw [if_pos c4] at H
      have c4b0 : decide (a0 < 0) = true := decide_eq_true c4
      clear c4
      (first | rw [c4b0] | (simp only [i64_w, i32_w]; rw [c4b0]) | skip)
      have H' := Aside0.mk H
      clear H
      go_wp2
      go_meet
      case rel => exact ⟨_, (true), (by first | rfl | (simp; done) | (simp [*]; done)), H', ⟨by first | omega | exact Nat.le_refl _⟩, ⟨by (with_reducible repeat (first | refine blk_drewN ?_ _ | refine blk_drew ?_ | refine blk_alloc ?_ _)); exact BK169.out⟩, ⟨by repeat (first | (with_reducible first | exact HB.out | apply below_alloc | apply pw_below_drewN | apply below_drew1 | refine below_set ?_ GE169.out) | exact HB.out)⟩⟩
    · rw [if_neg c4] at H
      have c4b0 : decide (a0 < 0) = false := decide_eq_false c4
      clear c4
      (first | rw [c4b0] | (simp only [i64_w, i32_w]; rw [c4b0]) | skip)
      have H' := Aside0.mk H
      clear H
      go_wp2
      go_meet
      case rel => exact ⟨_, (decide (a0 > 4294967295)), (by first | rfl | (simp; done) | (simp [*]; done)), H', ⟨by first | omega | exact Nat.le_refl _⟩, ⟨by (with_reducible repeat (first | refine blk_drewN ?_ _ | refine blk_drew ?_ | refine blk_alloc ?_ _)); exact BK169.out⟩, ⟨by repeat (first | (with_reducible first | exact HB.out | apply below_alloc | apply pw_below_drewN | apply below_drew1 | refine below_set ?_ GE169.out) | exact HB.out)⟩⟩
  case rest =>
    clear HC2
    try clear c1
    try clear p2
    try clear c4
    try clear c4b0
    obtain ⟨kq, x11_1, rfl, HA, HJ1, BK169, HB⟩ := hcut
    cases kq with
    | zero => exact absurd HA.out (by simp [spec_l2Open.j0])
    | succ kj1 =>
      have H := HA.out
      clear HA
      simp only [spec_l2Open.j0] at H
      by_cases c5 : x11_1 = true
      · subst c5
        have H1 : (some (2, false, 0, 0)) = some (r1, r2, r3, r4) := by rw [if_pos rfl] at H; exact H
        clear H
        have H := H1
        clear H1
        simp only [Option.some.injEq, Prod.mk.injEq] at H
        obtain ⟨rfl, rfl, rfl, rfl⟩ := H
        have hcz6_0 : wc.cell? ⟨gb169, 0, none⟩ = some (.int .i64 0) := (blk_cell BK169.out 0).trans rfl
        have hcz6_1 : wc.cell? ⟨gb169, 1, none⟩ = some (.bool false) := (blk_cell BK169.out 1).trans rfl
        have hcz6_2 : wc.cell? ⟨gb169, 2, none⟩ = some (.int .i64 0) := (blk_cell BK169.out 2).trans rfl
        have hcz6_3 : wc.cell? ⟨gb169, 3, none⟩ = some (.int .i64 0) := (blk_cell BK169.out 3).trans rfl
        have hfz6_0 := blk_frozen BK169.out 0
        have hfz6_1 := blk_frozen BK169.out 1
        have hfz6_2 := blk_frozen BK169.out 2
        have hfz6_3 := blk_frozen BK169.out 3
        go_wp2
        refine bodyPost_ret (results_cell_row rfl _ _ gb169 123 #[.int .i64 2, .bool false, .int .i64 0, .int .i64 0] (0, 0) _ rfl (by (with_reducible repeat (first | refine blk_drewN ?_ _ | refine blk_drew ?_ | refine blk_alloc ?_ _)); refine blk_put (cs := #[.int .i64 2, .bool false, .int .i64 0, .int .i64 0]) ?_ 3 _ rfl; (with_reducible repeat (first | refine blk_drewN ?_ _ | refine blk_drew ?_ | refine blk_alloc ?_ _)); refine blk_put (cs := #[.int .i64 2, .bool false, .int .i64 0, .int .i64 0]) ?_ 2 _ rfl; (with_reducible repeat (first | refine blk_drewN ?_ _ | refine blk_drew ?_ | refine blk_alloc ?_ _)); refine blk_put (cs := #[.int .i64 2, .bool false, .int .i64 0, .int .i64 0]) ?_ 1 _ rfl; (with_reducible repeat (first | refine blk_drewN ?_ _ | refine blk_drew ?_ | refine blk_alloc ?_ _)); refine blk_put (cs := #[.int .i64 0, .bool false, .int .i64 0, .int .i64 0]) ?_ 0 _ rfl; (with_reducible repeat (first | refine blk_drewN ?_ _ | refine blk_drew ?_ | refine blk_alloc ?_ _)); exact BK169.out) Try.underlying123 rfl (by kernel_rfl)) rfl ?_
        exact ⟨by first | rfl | (simp [errW_none, errW_some] <;> rfl) | (simp [*, errW_none, errW_some] <;> rfl), by repeat (first | (with_reducible first | exact HB.out | apply below_alloc | apply pw_below_drewN | apply below_drew1 | refine below_set ?_ GE169.out) | exact HB.out)⟩
      · replace c5 := Bool.eq_false_iff.mpr c5
        subst c5
        have H1 : (if (Go.bits .and .i64 (a0 / 8388608) 255) = 255 then (spec_l2Open.j1 kj1 (Go.bits .and .i64 (a0 / 8388608) 255) (Go.bits .and .i64 a0 8388607) ((Go.bits .and .i64 a0 8388607) != 0) 0 ((a0 / 2147483648) == 1) 0 0) else (spec_l2Open.j1 kj1 (Go.bits .and .i64 (a0 / 8388608) 255) (Go.bits .and .i64 a0 8388607) false 0 ((a0 / 2147483648) == 1) 0 0)) = some (r1, r2, r3, r4) := by rw [if_neg (show ¬ (false = true) by decide)] at H; exact H
        clear H
        have H := H1
        clear H1
        have HC7 := Aside0.mk H
        clear H
        go_upto_region 8 with (first | ((with_reducible refine gate_dst (N := 3) rfl ?_); refine box_event ?hg (N := 3) ?hd (cs := #[.int .i64 0, .bool false, .int .i64 0, .int .i64 0]) (t := 123) ?hr ?_; (case hd => rfl); (case hg => rfl); (case hr => first | (go_simp; done) | (go_simp; rfl)); intro gb170 hg w8 hbox hb; have n0_ := Aside0.mk (blk_below (g := gb169) (o := .cells #[.int .i64 0, .bool false, .int .i64 0, .int .i64 0] 123 (0, 0)) (by (with_reducible repeat (first | refine blk_drewN ?_ _ | refine blk_drew ?_ | refine blk_alloc ?_ _)); exact BK169.out) hb); have n1_ := Aside0.mk (below_step (by repeat (first | (with_reducible first | exact HB.out | apply below_alloc | apply pw_below_drewN | apply below_drew1 | refine below_set ?_ GE169.out) | exact HB.out)) hb); have n2_ := Aside0.mk (hbox); have n3_ := Aside0.mk ((by rw [hg]; exact (below_size (by repeat (first | (with_reducible first | exact HB.out | apply below_alloc | apply pw_below_drewN | apply below_drew1 | refine below_set ?_ GE169.out) | exact HB.out))) : w.heap.size ≤ gb170)); have n4_ := Aside0.mk ((by rw [hg]; exact (below_size (by repeat (first | (with_reducible first | exact HB.out | apply below_alloc | apply pw_below_drewN | apply below_drew1 | refine below_set ?_ GE169.out) | exact HB.out))) : w.heap.size ≤ gb170)); have n5_ := Aside0.mk ((by rw [hg]; exact Nat.ne_of_lt (blk_lt (g := gb169) (o := .cells #[.int .i64 0, .bool false, .int .i64 0, .int .i64 0] 123 (0, 0)) (by (with_reducible repeat (first | refine blk_drewN ?_ _ | refine blk_drew ?_ | refine blk_alloc ?_ _)); exact BK169.out)) : gb169 ≠ gb170)); have n6_ := Aside0.mk ((by rw [hg]; exact Nat.ne_of_gt (blk_lt (g := gb169) (o := .cells #[.int .i64 0, .bool false, .int .i64 0, .int .i64 0] 123 (0, 0)) (by (with_reducible repeat (first | refine blk_drewN ?_ _ | refine blk_drew ?_ | refine blk_alloc ?_ _)); exact BK169.out)) : gb170 ≠ gb169)); clear BK169; clear HB; have BK169 := n0_; have HB := n1_; have BK170 := n2_; have GW170 := n3_; have GE170 := n4_; have NB169_170 := n5_; have NB170_169 := n6_; clear n0_ n1_ n2_ n3_ n4_ n5_ n6_; clear hb hbox hg; have hnb9 := NB170_169.out; have hnc9 := NB169_170.out; have hcz10_0 : w8.cell? ⟨gb170, 0, none⟩ = some (.int .i64 0) := (blk_cell BK170.out 0).trans rfl; have hcz10_1 : w8.cell? ⟨gb170, 1, none⟩ = some (.bool false) := (blk_cell BK170.out 1).trans rfl; have hcz10_2 : w8.cell? ⟨gb170, 2, none⟩ = some (.int .i64 0) := (blk_cell BK170.out 2).trans rfl; have hcz10_3 : w8.cell? ⟨gb170, 3, none⟩ = some (.int .i64 0) := (blk_cell BK170.out 3).trans rfl; have hfz10_0 := blk_frozen BK170.out 0; have hfz10_1 := blk_frozen BK170.out 1; have hfz10_2 := blk_frozen BK170.out 2; have hfz10_3 := blk_frozen BK170.out 3))
        (try simp only [Act.put, List.setIfInBounds_toArray, List.set_cons_zero, List.set_cons_succ])
        go_cut [28] (fun v28 wc => ∃ (kq : Nat) (x28_6 : Bool), v28 = .bool x28_6 ∧ Aside0 (spec_l2Open.j1 kq (Go.bits .and .i64 (a0 / 8388608) 255) (Go.bits .and .i64 a0 8388607) x28_6 0 ((a0 / 2147483648) == 1) 0 0 = some (r1, r2, r3, r4)) ∧ Aside0 (kq ≤ kj1) ∧ Aside0 (wc.heap[gb169]? = some (.cells #[.int .i64 0, .bool false, .int .i64 0, .int .i64 0] 123 (0, 0))) ∧ Aside0 (wc.heap[gb170]? = some (.cells #[.int .i64 0, .bool ((a0 / 2147483648) == 1), .int .i64 0, .int .i64 0] 123 (0, 0))) ∧ Aside0 (Below w.heap.size w wc))
        case first =>
          have H := HC7.out
          clear HC7
          by_cases c11 : (Go.bits .and .i64 (a0 / 8388608) 255) = 255
          · rw [if_pos c11] at H
            have c11b0 : ((Go.bits .and .i64 (a0 / 8388608) 255) == 255) = true := beq_iff_eq.mpr c11
            have c11b1 : ((Go.bits .and .i64 (a0 / 8388608) 255) != 255) = false := bne_eq_false_iff_eq.mpr c11
            clear c11
            (first | rw [c11b0] | (simp only [i64_w, i32_w]; rw [c11b0]) | skip)
            have H' := Aside0.mk H
            clear H
            go_wp2
            go_meet
            case rel => exact ⟨_, (((Go.bits .and .i64 a0 8388607) != 0)), (by first | rfl | (simp; done) | (simp [*]; done)), H', ⟨by have := HJ1.out; first | omega | exact Nat.le_refl _⟩, ⟨by (with_reducible repeat (first | refine blk_drewN ?_ _ | refine blk_drew ?_ | refine blk_alloc ?_ _)); refine blk_far ?_ NB169_170.out _; (with_reducible repeat (first | refine blk_drewN ?_ _ | refine blk_drew ?_ | refine blk_alloc ?_ _)); refine blk_far ?_ NB169_170.out _; (with_reducible repeat (first | refine blk_drewN ?_ _ | refine blk_drew ?_ | refine blk_alloc ?_ _)); refine blk_far ?_ NB169_170.out _; (with_reducible repeat (first | refine blk_drewN ?_ _ | refine blk_drew ?_ | refine blk_alloc ?_ _)); refine blk_far ?_ NB169_170.out _; (with_reducible repeat (first | refine blk_drewN ?_ _ | refine blk_drew ?_ | refine blk_alloc ?_ _)); exact BK169.out⟩, ⟨by (with_reducible repeat (first | refine blk_drewN ?_ _ | refine blk_drew ?_ | refine blk_alloc ?_ _)); refine blk_put (cs := #[.int .i64 0, .bool ((a0 / 2147483648) == 1), .int .i64 0, .int .i64 0]) ?_ 3 _ rfl; (with_reducible repeat (first | refine blk_drewN ?_ _ | refine blk_drew ?_ | refine blk_alloc ?_ _)); refine blk_put (cs := #[.int .i64 0, .bool ((a0 / 2147483648) == 1), .int .i64 0, .int .i64 0]) ?_ 2 _ rfl; (with_reducible repeat (first | refine blk_drewN ?_ _ | refine blk_drew ?_ | refine blk_alloc ?_ _)); refine blk_put (cs := #[.int .i64 0, .bool false, .int .i64 0, .int .i64 0]) ?_ 1 _ rfl; (with_reducible repeat (first | refine blk_drewN ?_ _ | refine blk_drew ?_ | refine blk_alloc ?_ _)); refine blk_put (cs := #[.int .i64 0, .bool false, .int .i64 0, .int .i64 0]) ?_ 0 _ rfl; (with_reducible repeat (first | refine blk_drewN ?_ _ | refine blk_drew ?_ | refine blk_alloc ?_ _)); exact BK170.out⟩, ⟨by repeat (first | (with_reducible first | exact HB.out | apply below_alloc | apply pw_below_drewN | apply below_drew1 | refine below_set ?_ GE169.out | refine below_set ?_ GE170.out) | exact HB.out)⟩⟩
          · rw [if_neg c11] at H
            have c11b0 : ((Go.bits .and .i64 (a0 / 8388608) 255) == 255) = false := beq_eq_false_iff_ne.mpr c11
            have c11b1 : ((Go.bits .and .i64 (a0 / 8388608) 255) != 255) = true := bne_iff_ne.mpr c11
            (first | rw [c11b0] | (simp only [i64_w, i32_w]; rw [c11b0]) | skip)
            have H' := Aside0.mk H
            clear H
            go_wp2
            go_meet
            case rel => exact ⟨_, (false), (by first | rfl | (simp; done) | (simp [*]; done)), H', ⟨by have := HJ1.out; first | omega | exact Nat.le_refl _⟩, ⟨by (with_reducible repeat (first | refine blk_drewN ?_ _ | refine blk_drew ?_ | refine blk_alloc ?_ _)); refine blk_far ?_ NB169_170.out _; (with_reducible repeat (first | refine blk_drewN ?_ _ | refine blk_drew ?_ | refine blk_alloc ?_ _)); refine blk_far ?_ NB169_170.out _; (with_reducible repeat (first | refine blk_drewN ?_ _ | refine blk_drew ?_ | refine blk_alloc ?_ _)); refine blk_far ?_ NB169_170.out _; (with_reducible repeat (first | refine blk_drewN ?_ _ | refine blk_drew ?_ | refine blk_alloc ?_ _)); refine blk_far ?_ NB169_170.out _; (with_reducible repeat (first | refine blk_drewN ?_ _ | refine blk_drew ?_ | refine blk_alloc ?_ _)); exact BK169.out⟩, ⟨by (with_reducible repeat (first | refine blk_drewN ?_ _ | refine blk_drew ?_ | refine blk_alloc ?_ _)); refine blk_put (cs := #[.int .i64 0, .bool ((a0 / 2147483648) == 1), .int .i64 0, .int .i64 0]) ?_ 3 _ rfl; (with_reducible repeat (first | refine blk_drewN ?_ _ | refine blk_drew ?_ | refine blk_alloc ?_ _)); refine blk_put (cs := #[.int .i64 0, .bool ((a0 / 2147483648) == 1), .int .i64 0, .int .i64 0]) ?_ 2 _ rfl; (with_reducible repeat (first | refine blk_drewN ?_ _ | refine blk_drew ?_ | refine blk_alloc ?_ _)); refine blk_put (cs := #[.int .i64 0, .bool false, .int .i64 0, .int .i64 0]) ?_ 1 _ rfl; (with_reducible repeat (first | refine blk_drewN ?_ _ | refine blk_drew ?_ | refine blk_alloc ?_ _)); refine blk_put (cs := #[.int .i64 0, .bool false, .int .i64 0, .int .i64 0]) ?_ 0 _ rfl; (with_reducible repeat (first | refine blk_drewN ?_ _ | refine blk_drew ?_ | refine blk_alloc ?_ _)); exact BK170.out⟩, ⟨by repeat (first | (with_reducible first | exact HB.out | apply below_alloc | apply pw_below_drewN | apply below_drew1 | refine below_set ?_ GE169.out | refine below_set ?_ GE170.out) | exact HB.out)⟩⟩
        case rest =>
          clear HC7
          try clear c1
          try clear p2
          try clear c4
          try clear c4b0
          try clear c5
          try clear c9
          try clear c10
          try clear c11
          try clear c11b0
          try clear c11b1
          try clear hcz10_0
          try clear hcz10_1
          try clear hcz10_2
          try clear hcz10_3
          try clear hcz6_0
          try clear hcz6_1
          try clear hcz6_2
          try clear hcz6_3
          try clear hfz10_0
          try clear hfz10_1
          try clear hfz10_2
          try clear hfz10_3
          try clear hfz6_0
          try clear hfz6_1
          try clear hfz6_2
          try clear hfz6_3
          try clear p2
          obtain ⟨kq, x28_6, rfl, HA, HJ6, BK169, BK170, HB⟩ := hcut
          cases kq with
          | zero => exact absurd HA.out (by simp [spec_l2Open.j1])
          | succ kj6 =>
            have H := HA.out
            clear HA
            simp only [spec_l2Open.j1] at H
            by_cases c12 : x28_6 = true
            · subst c12
              have H1 : (some (2, ((a0 / 2147483648) == 1), 0, 0)) = some (r1, r2, r3, r4) := by rw [if_pos rfl] at H; exact H
              clear H
              have H := H1
              clear H1
              simp only [Option.some.injEq, Prod.mk.injEq] at H
              obtain ⟨rfl, rfl, rfl, rfl⟩ := H
              have hnb13 := NB170_169.out
              have hnc13 := NB169_170.out
              have hcz14_0 : wc.cell? ⟨gb170, 0, none⟩ = some (.int .i64 0) := (blk_cell BK170.out 0).trans rfl
              have hcz14_1 : wc.cell? ⟨gb170, 1, none⟩ = some (.bool ((a0 / 2147483648) == 1)) := (blk_cell BK170.out 1).trans rfl
              have hcz14_2 : wc.cell? ⟨gb170, 2, none⟩ = some (.int .i64 0) := (blk_cell BK170.out 2).trans rfl
              have hcz14_3 : wc.cell? ⟨gb170, 3, none⟩ = some (.int .i64 0) := (blk_cell BK170.out 3).trans rfl
              have hfz14_0 := blk_frozen BK170.out 0
              have hfz14_1 := blk_frozen BK170.out 1
              have hfz14_2 := blk_frozen BK170.out 2
              have hfz14_3 := blk_frozen BK170.out 3
              have hcz15_0 : wc.cell? ⟨gb169, 0, none⟩ = some (.int .i64 0) := (blk_cell BK169.out 0).trans rfl
              have hcz15_1 : wc.cell? ⟨gb169, 1, none⟩ = some (.bool false) := (blk_cell BK169.out 1).trans rfl
              have hcz15_2 : wc.cell? ⟨gb169, 2, none⟩ = some (.int .i64 0) := (blk_cell BK169.out 2).trans rfl
              have hcz15_3 : wc.cell? ⟨gb169, 3, none⟩ = some (.int .i64 0) := (blk_cell BK169.out 3).trans rfl
              have hfz15_0 := blk_frozen BK169.out 0
              have hfz15_1 := blk_frozen BK169.out 1
              have hfz15_2 := blk_frozen BK169.out 2
              have hfz15_3 := blk_frozen BK169.out 3
              go_wp2
              refine bodyPost_ret (results_cell_row rfl _ _ gb169 123 #[.int .i64 2, .bool ((a0 / 2147483648) == 1), .int .i64 0, .int .i64 0] (0, 0) _ rfl (by (with_reducible repeat (first | refine blk_drewN ?_ _ | refine blk_drew ?_ | refine blk_alloc ?_ _)); refine blk_put (cs := #[.int .i64 2, .bool ((a0 / 2147483648) == 1), .int .i64 0, .int .i64 0]) ?_ 3 _ rfl; (with_reducible repeat (first | refine blk_drewN ?_ _ | refine blk_drew ?_ | refine blk_alloc ?_ _)); refine blk_put (cs := #[.int .i64 2, .bool ((a0 / 2147483648) == 1), .int .i64 0, .int .i64 0]) ?_ 2 _ rfl; (with_reducible repeat (first | refine blk_drewN ?_ _ | refine blk_drew ?_ | refine blk_alloc ?_ _)); refine blk_put (cs := #[.int .i64 2, .bool false, .int .i64 0, .int .i64 0]) ?_ 1 _ rfl; (with_reducible repeat (first | refine blk_drewN ?_ _ | refine blk_drew ?_ | refine blk_alloc ?_ _)); refine blk_put (cs := #[.int .i64 0, .bool false, .int .i64 0, .int .i64 0]) ?_ 0 _ rfl; (with_reducible repeat (first | refine blk_drewN ?_ _ | refine blk_drew ?_ | refine blk_alloc ?_ _)); refine blk_far ?_ NB169_170.out _; (with_reducible repeat (first | refine blk_drewN ?_ _ | refine blk_drew ?_ | refine blk_alloc ?_ _)); exact BK169.out) Try.underlying123 rfl (by kernel_rfl)) rfl ?_
              exact ⟨by first | rfl | (simp [errW_none, errW_some] <;> rfl) | (simp [*, errW_none, errW_some] <;> rfl), by repeat (first | (with_reducible first | exact HB.out | apply below_alloc | apply pw_below_drewN | apply below_drew1 | refine below_set ?_ GE169.out | refine below_set ?_ GE170.out) | exact HB.out)⟩
            · replace c12 := Bool.eq_false_iff.mpr c12
              subst c12
              have H1 : (if (Go.bits .and .i64 (a0 / 8388608) 255) = 255 then (some (1, ((a0 / 2147483648) == 1), 0, 0)) else (if (Go.bits .and .i64 (a0 / 8388608) 255) = 0 then (some (0, ((a0 / 2147483648) == 1), (Go.bits .and .i64 a0 8388607), (-149))) else (some (0, ((a0 / 2147483648) == 1), wrap64 ((Go.bits .and .i64 a0 8388607) + 8388608), wrap64 ((Go.bits .and .i64 (a0 / 8388608) 255) - 150))))) = some (r1, r2, r3, r4) := by rw [if_neg (show ¬ (false = true) by decide)] at H; exact H
              clear H
              have H := H1
              clear H1
              by_cases c16 : (Go.bits .and .i64 (a0 / 8388608) 255) = 255
              · rw [if_pos c16] at H
                have c16b0 : ((Go.bits .and .i64 (a0 / 8388608) 255) == 255) = true := beq_iff_eq.mpr c16
                have c16b1 : ((Go.bits .and .i64 (a0 / 8388608) 255) != 255) = false := bne_eq_false_iff_eq.mpr c16
                clear c16
                simp only [Option.some.injEq, Prod.mk.injEq] at H
                obtain ⟨rfl, rfl, rfl, rfl⟩ := H
                have hnb17 := NB170_169.out
                have hnc17 := NB169_170.out
                have hcz18_0 : wc.cell? ⟨gb170, 0, none⟩ = some (.int .i64 0) := (blk_cell BK170.out 0).trans rfl
                have hcz18_1 : wc.cell? ⟨gb170, 1, none⟩ = some (.bool ((a0 / 2147483648) == 1)) := (blk_cell BK170.out 1).trans rfl
                have hcz18_2 : wc.cell? ⟨gb170, 2, none⟩ = some (.int .i64 0) := (blk_cell BK170.out 2).trans rfl
                have hcz18_3 : wc.cell? ⟨gb170, 3, none⟩ = some (.int .i64 0) := (blk_cell BK170.out 3).trans rfl
                have hfz18_0 := blk_frozen BK170.out 0
                have hfz18_1 := blk_frozen BK170.out 1
                have hfz18_2 := blk_frozen BK170.out 2
                have hfz18_3 := blk_frozen BK170.out 3
                have hcz19_0 : wc.cell? ⟨gb169, 0, none⟩ = some (.int .i64 0) := (blk_cell BK169.out 0).trans rfl
                have hcz19_1 : wc.cell? ⟨gb169, 1, none⟩ = some (.bool false) := (blk_cell BK169.out 1).trans rfl
                have hcz19_2 : wc.cell? ⟨gb169, 2, none⟩ = some (.int .i64 0) := (blk_cell BK169.out 2).trans rfl
                have hcz19_3 : wc.cell? ⟨gb169, 3, none⟩ = some (.int .i64 0) := (blk_cell BK169.out 3).trans rfl
                have hfz19_0 := blk_frozen BK169.out 0
                have hfz19_1 := blk_frozen BK169.out 1
                have hfz19_2 := blk_frozen BK169.out 2
                have hfz19_3 := blk_frozen BK169.out 3
                go_wp2
                refine bodyPost_ret (results_cell_row rfl _ _ gb169 123 #[.int .i64 1, .bool ((a0 / 2147483648) == 1), .int .i64 0, .int .i64 0] (0, 0) _ rfl (by (with_reducible repeat (first | refine blk_drewN ?_ _ | refine blk_drew ?_ | refine blk_alloc ?_ _)); refine blk_put (cs := #[.int .i64 1, .bool ((a0 / 2147483648) == 1), .int .i64 0, .int .i64 0]) ?_ 3 _ rfl; (with_reducible repeat (first | refine blk_drewN ?_ _ | refine blk_drew ?_ | refine blk_alloc ?_ _)); refine blk_put (cs := #[.int .i64 1, .bool ((a0 / 2147483648) == 1), .int .i64 0, .int .i64 0]) ?_ 2 _ rfl; (with_reducible repeat (first | refine blk_drewN ?_ _ | refine blk_drew ?_ | refine blk_alloc ?_ _)); refine blk_put (cs := #[.int .i64 1, .bool false, .int .i64 0, .int .i64 0]) ?_ 1 _ rfl; (with_reducible repeat (first | refine blk_drewN ?_ _ | refine blk_drew ?_ | refine blk_alloc ?_ _)); refine blk_put (cs := #[.int .i64 0, .bool false, .int .i64 0, .int .i64 0]) ?_ 0 _ rfl; (with_reducible repeat (first | refine blk_drewN ?_ _ | refine blk_drew ?_ | refine blk_alloc ?_ _)); refine blk_far ?_ NB169_170.out _; (with_reducible repeat (first | refine blk_drewN ?_ _ | refine blk_drew ?_ | refine blk_alloc ?_ _)); exact BK169.out) Try.underlying123 rfl (by kernel_rfl)) rfl ?_
                exact ⟨by first | rfl | (simp [errW_none, errW_some] <;> rfl) | (simp [*, errW_none, errW_some] <;> rfl), by repeat (first | (with_reducible first | exact HB.out | apply below_alloc | apply pw_below_drewN | apply below_drew1 | refine below_set ?_ GE169.out | refine below_set ?_ GE170.out) | exact HB.out)⟩
              · rw [if_neg c16] at H
                have c16b0 : ((Go.bits .and .i64 (a0 / 8388608) 255) == 255) = false := beq_eq_false_iff_ne.mpr c16
                have c16b1 : ((Go.bits .and .i64 (a0 / 8388608) 255) != 255) = true := bne_iff_ne.mpr c16
                by_cases c20 : (Go.bits .and .i64 (a0 / 8388608) 255) = 0
                · rw [if_pos c20] at H
                  have c20b0 : ((Go.bits .and .i64 (a0 / 8388608) 255) == 0) = true := beq_iff_eq.mpr c20
                  have c20b1 : ((Go.bits .and .i64 (a0 / 8388608) 255) != 0) = false := bne_eq_false_iff_eq.mpr c20
                  clear c20
                  simp only [Option.some.injEq, Prod.mk.injEq] at H
                  obtain ⟨rfl, rfl, rfl, rfl⟩ := H
                  have hnb21 := NB170_169.out
                  have hnc21 := NB169_170.out
                  have hcz22_0 : wc.cell? ⟨gb170, 0, none⟩ = some (.int .i64 0) := (blk_cell BK170.out 0).trans rfl
                  have hcz22_1 : wc.cell? ⟨gb170, 1, none⟩ = some (.bool ((a0 / 2147483648) == 1)) := (blk_cell BK170.out 1).trans rfl
                  have hcz22_2 : wc.cell? ⟨gb170, 2, none⟩ = some (.int .i64 0) := (blk_cell BK170.out 2).trans rfl
                  have hcz22_3 : wc.cell? ⟨gb170, 3, none⟩ = some (.int .i64 0) := (blk_cell BK170.out 3).trans rfl
                  have hfz22_0 := blk_frozen BK170.out 0
                  have hfz22_1 := blk_frozen BK170.out 1
                  have hfz22_2 := blk_frozen BK170.out 2
                  have hfz22_3 := blk_frozen BK170.out 3
                  have hcz23_0 : wc.cell? ⟨gb169, 0, none⟩ = some (.int .i64 0) := (blk_cell BK169.out 0).trans rfl
                  have hcz23_1 : wc.cell? ⟨gb169, 1, none⟩ = some (.bool false) := (blk_cell BK169.out 1).trans rfl
                  have hcz23_2 : wc.cell? ⟨gb169, 2, none⟩ = some (.int .i64 0) := (blk_cell BK169.out 2).trans rfl
                  have hcz23_3 : wc.cell? ⟨gb169, 3, none⟩ = some (.int .i64 0) := (blk_cell BK169.out 3).trans rfl
                  have hfz23_0 := blk_frozen BK169.out 0
                  have hfz23_1 := blk_frozen BK169.out 1
                  have hfz23_2 := blk_frozen BK169.out 2
                  have hfz23_3 := blk_frozen BK169.out 3
                  go_wp2
                  refine bodyPost_ret (results_cell_row rfl _ _ gb169 123 #[.int .i64 0, .bool ((a0 / 2147483648) == 1), .int .i64 (Go.bits .and .i64 a0 8388607), .int .i64 (-149)] (0, 0) _ rfl (by (with_reducible repeat (first | refine blk_drewN ?_ _ | refine blk_drew ?_ | refine blk_alloc ?_ _)); refine blk_put (cs := #[.int .i64 0, .bool ((a0 / 2147483648) == 1), .int .i64 (Go.bits .and .i64 a0 8388607), .int .i64 0]) ?_ 3 _ rfl; (with_reducible repeat (first | refine blk_drewN ?_ _ | refine blk_drew ?_ | refine blk_alloc ?_ _)); refine blk_put (cs := #[.int .i64 0, .bool ((a0 / 2147483648) == 1), .int .i64 0, .int .i64 0]) ?_ 2 _ rfl; (with_reducible repeat (first | refine blk_drewN ?_ _ | refine blk_drew ?_ | refine blk_alloc ?_ _)); refine blk_put (cs := #[.int .i64 0, .bool false, .int .i64 0, .int .i64 0]) ?_ 1 _ rfl; (with_reducible repeat (first | refine blk_drewN ?_ _ | refine blk_drew ?_ | refine blk_alloc ?_ _)); refine blk_put (cs := #[.int .i64 0, .bool false, .int .i64 0, .int .i64 0]) ?_ 0 _ rfl; (with_reducible repeat (first | refine blk_drewN ?_ _ | refine blk_drew ?_ | refine blk_alloc ?_ _)); refine blk_far ?_ NB169_170.out _; (with_reducible repeat (first | refine blk_drewN ?_ _ | refine blk_drew ?_ | refine blk_alloc ?_ _)); refine blk_far ?_ NB169_170.out _; (with_reducible repeat (first | refine blk_drewN ?_ _ | refine blk_drew ?_ | refine blk_alloc ?_ _)); exact BK169.out) Try.underlying123 rfl (by kernel_rfl)) rfl ?_
                  exact ⟨by first | rfl | (simp [errW_none, errW_some] <;> rfl) | (simp [*, errW_none, errW_some] <;> rfl), by repeat (first | (with_reducible first | exact HB.out | apply below_alloc | apply pw_below_drewN | apply below_drew1 | refine below_set ?_ GE169.out | refine below_set ?_ GE170.out) | exact HB.out)⟩
                · rw [if_neg c20] at H
                  have c20b0 : ((Go.bits .and .i64 (a0 / 8388608) 255) == 0) = false := beq_eq_false_iff_ne.mpr c20
                  have c20b1 : ((Go.bits .and .i64 (a0 / 8388608) 255) != 0) = true := bne_iff_ne.mpr c20
                  simp only [Option.some.injEq, Prod.mk.injEq] at H
                  obtain ⟨rfl, rfl, rfl, rfl⟩ := H
                  have hnb24 := NB170_169.out
                  have hnc24 := NB169_170.out
                  have hcz25_0 : wc.cell? ⟨gb170, 0, none⟩ = some (.int .i64 0) := (blk_cell BK170.out 0).trans rfl
                  have hcz25_1 : wc.cell? ⟨gb170, 1, none⟩ = some (.bool ((a0 / 2147483648) == 1)) := (blk_cell BK170.out 1).trans rfl
                  have hcz25_2 : wc.cell? ⟨gb170, 2, none⟩ = some (.int .i64 0) := (blk_cell BK170.out 2).trans rfl
                  have hcz25_3 : wc.cell? ⟨gb170, 3, none⟩ = some (.int .i64 0) := (blk_cell BK170.out 3).trans rfl
                  have hfz25_0 := blk_frozen BK170.out 0
                  have hfz25_1 := blk_frozen BK170.out 1
                  have hfz25_2 := blk_frozen BK170.out 2
                  have hfz25_3 := blk_frozen BK170.out 3
                  have hcz26_0 : wc.cell? ⟨gb169, 0, none⟩ = some (.int .i64 0) := (blk_cell BK169.out 0).trans rfl
                  have hcz26_1 : wc.cell? ⟨gb169, 1, none⟩ = some (.bool false) := (blk_cell BK169.out 1).trans rfl
                  have hcz26_2 : wc.cell? ⟨gb169, 2, none⟩ = some (.int .i64 0) := (blk_cell BK169.out 2).trans rfl
                  have hcz26_3 : wc.cell? ⟨gb169, 3, none⟩ = some (.int .i64 0) := (blk_cell BK169.out 3).trans rfl
                  have hfz26_0 := blk_frozen BK169.out 0
                  have hfz26_1 := blk_frozen BK169.out 1
                  have hfz26_2 := blk_frozen BK169.out 2
                  have hfz26_3 := blk_frozen BK169.out 3
                  go_wp2
                  refine bodyPost_ret (results_cell_row rfl _ _ gb169 123 #[.int .i64 0, .bool ((a0 / 2147483648) == 1), .int .i64 (wrap64 ((Go.bits .and .i64 a0 8388607) + 8388608)), .int .i64 (wrap64 ((Go.bits .and .i64 (a0 / 8388608) 255) - 150))] (0, 0) _ rfl (by (with_reducible repeat (first | refine blk_drewN ?_ _ | refine blk_drew ?_ | refine blk_alloc ?_ _)); refine blk_put (cs := #[.int .i64 0, .bool ((a0 / 2147483648) == 1), .int .i64 (wrap64 ((Go.bits .and .i64 a0 8388607) + 8388608)), .int .i64 0]) ?_ 3 _ rfl; (with_reducible repeat (first | refine blk_drewN ?_ _ | refine blk_drew ?_ | refine blk_alloc ?_ _)); refine blk_put (cs := #[.int .i64 0, .bool ((a0 / 2147483648) == 1), .int .i64 0, .int .i64 0]) ?_ 2 _ rfl; (with_reducible repeat (first | refine blk_drewN ?_ _ | refine blk_drew ?_ | refine blk_alloc ?_ _)); refine blk_put (cs := #[.int .i64 0, .bool false, .int .i64 0, .int .i64 0]) ?_ 1 _ rfl; (with_reducible repeat (first | refine blk_drewN ?_ _ | refine blk_drew ?_ | refine blk_alloc ?_ _)); refine blk_put (cs := #[.int .i64 0, .bool false, .int .i64 0, .int .i64 0]) ?_ 0 _ rfl; (with_reducible repeat (first | refine blk_drewN ?_ _ | refine blk_drew ?_ | refine blk_alloc ?_ _)); refine blk_far ?_ NB169_170.out _; (with_reducible repeat (first | refine blk_drewN ?_ _ | refine blk_drew ?_ | refine blk_alloc ?_ _)); refine blk_far ?_ NB169_170.out _; (with_reducible repeat (first | refine blk_drewN ?_ _ | refine blk_drew ?_ | refine blk_alloc ?_ _)); exact BK169.out) Try.underlying123 rfl (by kernel_rfl)) rfl ?_
                  exact ⟨by first | rfl | (simp [errW_none, errW_some] <;> rfl) | (simp [*, errW_none, errW_some] <;> rfl), by repeat (first | (with_reducible first | exact HB.out | apply below_alloc | apply pw_below_drewN | apply below_drew1 | refine below_set ?_ GE169.out | refine below_set ?_ GE170.out) | exact HB.out)⟩

/-! ### spec_FNeg: function 82 -/
def spec_FNeg.f (k : Nat) (a0 : Int) : Option (Int) := (spec_l2Open.f k a0).bind fun bt171 => (if bt171.1 = 2 then (some 2143289344) else (some (Go.bits .xor .i64 a0 2147483648)))
theorem spec_FNeg.mono : ∀ a0 k, LeO (spec_FNeg.f k a0) (spec_FNeg.f (k + 1) a0) := by
  intro a0 k
  unfold spec_FNeg.f
  repeat' first
      | (with_reducible exact spec_l2Open.mono _ _)
      | (with_reducible exact LeO.refl _)
      | (with_reducible exact LeO.none _)
      | (with_reducible refine LeO.ite ?_ ?_)
      | (with_reducible refine LeO.bind ?_ (fun _ => ?_))
      | exact spec_l2Open.mono _ _
      | exact LeO.none _
      | refine LeO.ite ?_ ?_
      | refine LeO.bind ?_ (fun _ => ?_)
set_option maxHeartbeats 8000000 in
set_option maxRecDepth 100000 in
theorem spec_FNeg.calls (k : Nat) (a0 : Int) (r : Int) (w : World) (h : spec_FNeg.f k a0 = some r) :
    Calls Try.prog 82 #[.int .i64 a0] w fun e w' => e = .returned (.int .i64 r) ∧ Below w.heap.size w w' := by
  have hu123 := Try.underlying123
  have HB := Aside0.mk (Below.refl w.heap.size w)
  have H : ((spec_l2Open.f k a0).bind fun bt171 => (if bt171.1 = 2 then (some 2143289344) else (some (Go.bits .xor .i64 a0 2147483648)))) = some r := h
  clear h
  replace H := Option.bind_eq_some_iff.mp H
  obtain ⟨⟨t171, t172, t173, t174⟩, A20, H⟩ := H
  replace H : (if t171 = 2 then (some 2143289344) else (some (Go.bits .xor .i64 a0 2147483648))) = some r := H
  have A2 := Aside0.mk A20
  clear A20
  by_cases c3 : t171 = 2
  · rw [if_pos c3] at H
    have c3b0 : (t171 == 2) = true := beq_iff_eq.mpr c3
    have c3b1 : (t171 != 2) = false := bne_eq_false_iff_eq.mpr c3
    clear c3
    obtain rfl := Option.some.inj H
    go_enter Try.func82, Try.ntmps82
    go_wp2_with (first | ((with_reducible refine gate_callee (f := 105) rfl ?_); refine goesL_ (some 5) rfl rfl Try.func105 (by kernel_rfl) rfl #[.int .i64 a0] rfl (by (try simp only [List.map_toArray, List.map_cons, List.map_nil]); first | done | rfl | (simp only [List.length_drop, List.length_take]; rfl)) ?_; (with_reducible refine (spec_l2Open.calls k a0 t171 t172 t173 t174 _ A2.out).mono ?_); rintro e w4 ⟨rfl, hb⟩; refine ⟨_, rfl, ?_⟩; have n0_ := Aside0.mk (below_step (by repeat (first | (with_reducible first | exact HB.out | apply below_alloc | apply pw_below_drewN | apply below_drew1) | exact HB.out)) hb); clear HB; have HB := n0_; clear n0_; (try clear hb); (try clear hb2); (try clear hk); (try clear hi)) | ((with_reducible refine gate_dst (N := 3) rfl ?_); refine box_event ?hg (N := 3) ?hd (cs := #[.int .i64 0, .bool false, .int .i64 0, .int .i64 0]) (t := 123) ?hr ?_; (case hd => rfl); (case hg => rfl); (case hr => first | (go_simp; done) | (go_simp; rfl)); intro gb175 hg w5 hbox hb; have n0_ := Aside0.mk (below_step (by repeat (first | (with_reducible first | exact HB.out | apply below_alloc | apply pw_below_drewN | apply below_drew1) | exact HB.out)) hb); have n1_ := Aside0.mk (hbox); have n2_ := Aside0.mk ((by rw [hg]; exact (below_size (by repeat (first | (with_reducible first | exact HB.out | apply below_alloc | apply pw_below_drewN | apply below_drew1) | exact HB.out))) : w.heap.size ≤ gb175)); have n3_ := Aside0.mk ((by rw [hg]; exact (below_size (by repeat (first | (with_reducible first | exact HB.out | apply below_alloc | apply pw_below_drewN | apply below_drew1) | exact HB.out))) : w.heap.size ≤ gb175)); clear HB; have HB := n0_; have BK175 := n1_; have GW175 := n2_; have GE175 := n3_; clear n0_ n1_ n2_ n3_; clear hb hbox hg; have hcz6_0 : w5.cell? ⟨gb175, 0, none⟩ = some (.int .i64 0) := (blk_cell BK175.out 0).trans rfl; have hcz6_1 : w5.cell? ⟨gb175, 1, none⟩ = some (.bool false) := (blk_cell BK175.out 1).trans rfl; have hcz6_2 : w5.cell? ⟨gb175, 2, none⟩ = some (.int .i64 0) := (blk_cell BK175.out 2).trans rfl; have hcz6_3 : w5.cell? ⟨gb175, 3, none⟩ = some (.int .i64 0) := (blk_cell BK175.out 3).trans rfl; have hfz6_0 := blk_frozen BK175.out 0; have hfz6_1 := blk_frozen BK175.out 1; have hfz6_2 := blk_frozen BK175.out 2; have hfz6_3 := blk_frozen BK175.out 3))
    go_ret
    exact ⟨by first | rfl | (simp [errW_none, errW_some] <;> rfl) | (simp [*, errW_none, errW_some] <;> rfl), by repeat (first | (with_reducible first | exact HB.out | apply below_alloc | apply pw_below_drewN | apply below_drew1 | refine below_set ?_ GE175.out) | exact HB.out)⟩
  · rw [if_neg c3] at H
    have c3b0 : (t171 == 2) = false := beq_eq_false_iff_ne.mpr c3
    have c3b1 : (t171 != 2) = true := bne_iff_ne.mpr c3
    obtain rfl := Option.some.inj H
    go_enter Try.func82, Try.ntmps82
    go_wp2_with (first | ((with_reducible refine gate_callee (f := 105) rfl ?_); refine goesL_ (some 5) rfl rfl Try.func105 (by kernel_rfl) rfl #[.int .i64 a0] rfl (by (try simp only [List.map_toArray, List.map_cons, List.map_nil]); first | done | rfl | (simp only [List.length_drop, List.length_take]; rfl)) ?_; (with_reducible refine (spec_l2Open.calls k a0 t171 t172 t173 t174 _ A2.out).mono ?_); rintro e w7 ⟨rfl, hb⟩; refine ⟨_, rfl, ?_⟩; have n0_ := Aside0.mk (below_step (by repeat (first | (with_reducible first | exact HB.out | apply below_alloc | apply pw_below_drewN | apply below_drew1) | exact HB.out)) hb); clear HB; have HB := n0_; clear n0_; (try clear hb); (try clear hb2); (try clear hk); (try clear hi)) | ((with_reducible refine gate_dst (N := 3) rfl ?_); refine box_event ?hg (N := 3) ?hd (cs := #[.int .i64 0, .bool false, .int .i64 0, .int .i64 0]) (t := 123) ?hr ?_; (case hd => rfl); (case hg => rfl); (case hr => first | (go_simp; done) | (go_simp; rfl)); intro gb175 hg w8 hbox hb; have n0_ := Aside0.mk (below_step (by repeat (first | (with_reducible first | exact HB.out | apply below_alloc | apply pw_below_drewN | apply below_drew1) | exact HB.out)) hb); have n1_ := Aside0.mk (hbox); have n2_ := Aside0.mk ((by rw [hg]; exact (below_size (by repeat (first | (with_reducible first | exact HB.out | apply below_alloc | apply pw_below_drewN | apply below_drew1) | exact HB.out))) : w.heap.size ≤ gb175)); have n3_ := Aside0.mk ((by rw [hg]; exact (below_size (by repeat (first | (with_reducible first | exact HB.out | apply below_alloc | apply pw_below_drewN | apply below_drew1) | exact HB.out))) : w.heap.size ≤ gb175)); clear HB; have HB := n0_; have BK175 := n1_; have GW175 := n2_; have GE175 := n3_; clear n0_ n1_ n2_ n3_; clear hb hbox hg; have hcz9_0 : w8.cell? ⟨gb175, 0, none⟩ = some (.int .i64 0) := (blk_cell BK175.out 0).trans rfl; have hcz9_1 : w8.cell? ⟨gb175, 1, none⟩ = some (.bool false) := (blk_cell BK175.out 1).trans rfl; have hcz9_2 : w8.cell? ⟨gb175, 2, none⟩ = some (.int .i64 0) := (blk_cell BK175.out 2).trans rfl; have hcz9_3 : w8.cell? ⟨gb175, 3, none⟩ = some (.int .i64 0) := (blk_cell BK175.out 3).trans rfl; have hfz9_0 := blk_frozen BK175.out 0; have hfz9_1 := blk_frozen BK175.out 1; have hfz9_2 := blk_frozen BK175.out 2; have hfz9_3 := blk_frozen BK175.out 3))
    go_ret
    exact ⟨by first | rfl | (simp [errW_none, errW_some] <;> rfl) | (simp [*, errW_none, errW_some] <;> rfl), by repeat (first | (with_reducible first | exact HB.out | apply below_alloc | apply pw_below_drewN | apply below_drew1 | refine below_set ?_ GE175.out) | exact HB.out)⟩

/-! ### spec_l2TwoFloats: function 49 -/
def spec_l2TwoFloats.f (k : Nat) (l0 : List Int) : Option (Int × Int) := (spec_l1New.f k l0).bind fun bt176 => ((spec_l2Float.f k bt176.1 bt176.2.1 bt176.2.2).bind fun bt180 => ((spec_l2Float.f k bt176.1 bt180.2.1 bt180.2.2).bind fun bt183 => ((spec_l1Below.f bt176.1 bt183.2.1 bt183.2.2 8).bind fun bt186 => (if bt186.1 = 0 then ((spec_FNeg.f k bt180.1).bind fun t189 => (some (bt180.1, t189))) else (if bt186.1 = 1 then ((spec_FNeg.f k bt180.1).bind fun t190 => (some (bt180.1, Go.bits .xor .i64 t190 1))) else (if bt186.1 = 2 then (some (bt180.1, wrap64 (bt180.1 - 209715200))) else (some (bt180.1, bt183.1))))))))
theorem spec_l2TwoFloats.mono : ∀ a0 k, LeO (spec_l2TwoFloats.f k a0) (spec_l2TwoFloats.f (k + 1) a0) := by
  intro a0 k
  unfold spec_l2TwoFloats.f
  repeat' first
      | (with_reducible exact spec_FNeg.mono _ _)
      | (with_reducible exact spec_l1New.mono _ _)
      | (with_reducible exact spec_l2Float.mono _ _ _ _)
      | (with_reducible exact LeO.refl _)
      | (with_reducible exact LeO.none _)
      | (with_reducible refine LeO.ite ?_ ?_)
      | (with_reducible refine LeO.bind ?_ (fun _ => ?_))
      | exact spec_FNeg.mono _ _
      | exact spec_l1New.mono _ _
      | exact spec_l2Float.mono _ _ _ _
      | exact LeO.none _
      | refine LeO.ite ?_ ?_
      | refine LeO.bind ?_ (fun _ => ?_)
set_option maxHeartbeats 8000000 in
set_option maxRecDepth 100000 in
theorem spec_l2TwoFloats.calls (k : Nat) (A0 : Option Addr) (c0 : Nat) (l0 : List Int) (r1 : Int) (r2 : Int) (w : World) (hr0 : Kd.C (Kd.int .u8) w A0 l0.length l0) (hc0 : l0.length ≤ c0) (h : spec_l2TwoFloats.f k l0 = some (r1, r2)) :
    Calls Try.prog 49 #[.slice A0 l0.length c0] w fun e w' => e = .returned (.tuple #[.int .i64 r1, .int .i64 r2]) ∧ Below w.heap.size w w' := by
  have HR0 := Aside0.mk hr0
  have HC0 := Aside0.mk hc0
  clear hr0 hc0
  have HB := Aside0.mk (Below.refl w.heap.size w)
  have H : ((spec_l1New.f k l0).bind fun bt176 => ((spec_l2Float.f k bt176.1 bt176.2.1 bt176.2.2).bind fun bt180 => ((spec_l2Float.f k bt176.1 bt180.2.1 bt180.2.2).bind fun bt183 => ((spec_l1Below.f bt176.1 bt183.2.1 bt183.2.2 8).bind fun bt186 => (if bt186.1 = 0 then ((spec_FNeg.f k bt180.1).bind fun t189 => (some (bt180.1, t189))) else (if bt186.1 = 1 then ((spec_FNeg.f k bt180.1).bind fun t190 => (some (bt180.1, Go.bits .xor .i64 t190 1))) else (if bt186.1 = 2 then (some (bt180.1, wrap64 (bt180.1 - 209715200))) else (some (bt180.1, bt183.1))))))))) = some (r1, r2) := h
  clear h
  replace H := Option.bind_eq_some_iff.mp H
  obtain ⟨⟨t176, t177, t178⟩, A20, H⟩ := H
  replace H : ((spec_l2Float.f k t176 t177 t178).bind fun bt180 => ((spec_l2Float.f k t176 bt180.2.1 bt180.2.2).bind fun bt183 => ((spec_l1Below.f t176 bt183.2.1 bt183.2.2 8).bind fun bt186 => (if bt186.1 = 0 then ((spec_FNeg.f k bt180.1).bind fun t189 => (some (bt180.1, t189))) else (if bt186.1 = 1 then ((spec_FNeg.f k bt180.1).bind fun t190 => (some (bt180.1, Go.bits .xor .i64 t190 1))) else (if bt186.1 = 2 then (some (bt180.1, wrap64 (bt180.1 - 209715200))) else (some (bt180.1, bt183.1)))))))) = some (r1, r2) := H
  have A2 := Aside0.mk A20
  clear A20
  replace H := Option.bind_eq_some_iff.mp H
  obtain ⟨⟨t180, t181, t182⟩, A30, H⟩ := H
  replace H : ((spec_l2Float.f k t176 t181 t182).bind fun bt183 => ((spec_l1Below.f t176 bt183.2.1 bt183.2.2 8).bind fun bt186 => (if bt186.1 = 0 then ((spec_FNeg.f k t180).bind fun t189 => (some (t180, t189))) else (if bt186.1 = 1 then ((spec_FNeg.f k t180).bind fun t190 => (some (t180, Go.bits .xor .i64 t190 1))) else (if bt186.1 = 2 then (some (t180, wrap64 (t180 - 209715200))) else (some (t180, bt183.1))))))) = some (r1, r2) := H
  have A3 := Aside0.mk A30
  clear A30
  replace H := Option.bind_eq_some_iff.mp H
  obtain ⟨⟨t183, t184, t185⟩, A40, H⟩ := H
  replace H : ((spec_l1Below.f t176 t184 t185 8).bind fun bt186 => (if bt186.1 = 0 then ((spec_FNeg.f k t180).bind fun t189 => (some (t180, t189))) else (if bt186.1 = 1 then ((spec_FNeg.f k t180).bind fun t190 => (some (t180, Go.bits .xor .i64 t190 1))) else (if bt186.1 = 2 then (some (t180, wrap64 (t180 - 209715200))) else (some (t180, t183)))))) = some (r1, r2) := H
  have A4 := Aside0.mk A40
  clear A40
  replace H := Option.bind_eq_some_iff.mp H
  obtain ⟨⟨t186, t187, t188⟩, A50, H⟩ := H
  replace H : (if t186 = 0 then ((spec_FNeg.f k t180).bind fun t189 => (some (t180, t189))) else (if t186 = 1 then ((spec_FNeg.f k t180).bind fun t190 => (some (t180, Go.bits .xor .i64 t190 1))) else (if t186 = 2 then (some (t180, wrap64 (t180 - 209715200))) else (some (t180, t183))))) = some (r1, r2) := H
  have A5 := Aside0.mk A50
  clear A50
  by_cases c6 : t186 = 0
  · rw [if_pos c6] at H
    have c6b0 : (t186 == 0) = true := beq_iff_eq.mpr c6
    have c6b1 : (t186 != 0) = false := bne_eq_false_iff_eq.mpr c6
    clear c6
    replace H := Option.bind_eq_some_iff.mp H
    obtain ⟨t189, A70, H⟩ := H
    replace H : (some (t180, t189)) = some (r1, r2) := H
    have A7 := Aside0.mk A70
    clear A70
    simp only [Option.some.injEq, Prod.mk.injEq] at H
    obtain ⟨rfl, rfl⟩ := H
    go_enter Try.func49, Try.ntmps49
    go_wp2_with (first | ((with_reducible refine gate_callee (f := 79) rfl ?_); refine goesL_ (some 8) rfl rfl Try.func79 (by kernel_rfl) rfl #[.slice A0 l0.length c0] rfl (by (try simp only [List.map_toArray, List.map_cons, List.map_nil]); first | done | rfl | (simp only [List.length_drop, List.length_take]; rfl)) ?_; (with_reducible refine (spec_l1New.calls k _ _ l0 t176 t177 t178 w _ ?side1 ?side2 ?side3 A2.out).mono ?_); (case side1 => repeat (first | (with_reducible first | exact HB.out | apply below_alloc | apply pw_below_drewN | apply below_drew1) | exact HB.out)); (case side2 => exact HR0.out); (case side3 => exact HC0.out); rintro e w8 ⟨g179, rfl, hi, hb, hb2⟩; refine ⟨_, rfl, ?_⟩; have n0_ := Aside0.mk (hb); have n1_ := Aside0.mk (hi); clear HB; have HB := n0_; have HI179 := n1_; clear n0_ n1_; (try clear hb); (try clear hb2); (try clear hk); (try clear hi)) | ((with_reducible refine gate_callee (f := 80) rfl ?_); refine goesL_ (some 10) rfl rfl Try.func80 (by kernel_rfl) rfl #[.pointer (some ⟨g179, 0, none⟩)] rfl (by (try simp only [List.map_toArray, List.map_cons, List.map_nil]); first | done | rfl | (simp only [List.length_drop, List.length_take]; rfl)) ?_; (with_reducible refine (spec_l2Float.calls k g179 t176 t177 t178 t180 t181 t182 w _ ?side1 ?side2 A3.out).mono ?_); (case side1 => repeat (first | (with_reducible first | exact HI179.out | apply IsS119.alloc | apply IsS119.drewN | apply IsS119.drew | apply IsS119.set_1 | apply IsS119.set_2) | exact HI179.out)); (case side2 => repeat (first | (with_reducible first | exact HB.out | apply below_alloc | apply pw_below_drewN | apply below_drew1 | refine below_set ?_ (IsS119.ge HI179.out)) | exact HB.out)); rintro e w9 ⟨rfl, hi, hb, hk⟩; refine ⟨_, rfl, ?_⟩; have n0_ := Aside0.mk (hb); have n1_ := Aside0.mk (hi); clear HB; clear HI179; have HB := n0_; have HI179 := n1_; clear n0_ n1_; (try clear hb); (try clear hb2); (try clear hk); (try clear hi)) | ((with_reducible refine gate_callee (f := 80) rfl ?_); refine goesL_ (some 12) rfl rfl Try.func80 (by kernel_rfl) rfl #[.pointer (some ⟨g179, 0, none⟩)] rfl (by (try simp only [List.map_toArray, List.map_cons, List.map_nil]); first | done | rfl | (simp only [List.length_drop, List.length_take]; rfl)) ?_; (with_reducible refine (spec_l2Float.calls k g179 t176 t181 t182 t183 t184 t185 w _ ?side1 ?side2 A4.out).mono ?_); (case side1 => repeat (first | (with_reducible first | exact HI179.out | apply IsS119.alloc | apply IsS119.drewN | apply IsS119.drew | apply IsS119.set_1 | apply IsS119.set_2) | exact HI179.out)); (case side2 => repeat (first | (with_reducible first | exact HB.out | apply below_alloc | apply pw_below_drewN | apply below_drew1 | refine below_set ?_ (IsS119.ge HI179.out)) | exact HB.out)); rintro e w10 ⟨rfl, hi, hb, hk⟩; refine ⟨_, rfl, ?_⟩; have n0_ := Aside0.mk (hb); have n1_ := Aside0.mk (hi); clear HB; clear HI179; have HB := n0_; have HI179 := n1_; clear n0_ n1_; (try clear hb); (try clear hb2); (try clear hk); (try clear hi)) | ((with_reducible refine gate_callee (f := 81) rfl ?_); refine goesL_ (some 14) rfl rfl Try.func81 (by kernel_rfl) rfl #[.pointer (some ⟨g179, 0, none⟩), .int .i64 8] rfl (by (try simp only [List.map_toArray, List.map_cons, List.map_nil]); first | done | rfl | (simp only [List.length_drop, List.length_take]; rfl)) ?_; (with_reducible refine (spec_l1Below.calls g179 t176 t184 t185 8 t186 t187 t188 w _ ?side1 ?side2 A5.out).mono ?_); (case side1 => repeat (first | (with_reducible first | exact HI179.out | apply IsS119.alloc | apply IsS119.drewN | apply IsS119.drew | apply IsS119.set_1 | apply IsS119.set_2) | exact HI179.out)); (case side2 => repeat (first | (with_reducible first | exact HB.out | apply below_alloc | apply pw_below_drewN | apply below_drew1 | refine below_set ?_ (IsS119.ge HI179.out)) | exact HB.out)); rintro e w11 ⟨rfl, hi, hb, hk⟩; refine ⟨_, rfl, ?_⟩; have n0_ := Aside0.mk (hb); have n1_ := Aside0.mk (hi); clear HB; clear HI179; have HB := n0_; have HI179 := n1_; clear n0_ n1_; (try clear hb); (try clear hb2); (try clear hk); (try clear hi)) | ((with_reducible refine gate_callee (f := 82) rfl ?_); refine goesL_ (some 18) rfl rfl Try.func82 (by kernel_rfl) rfl #[.int .i64 t180] rfl (by (try simp only [List.map_toArray, List.map_cons, List.map_nil]); first | done | rfl | (simp only [List.length_drop, List.length_take]; rfl)) ?_; (with_reducible refine (spec_FNeg.calls k t180 t189 _ A7.out).mono ?_); rintro e w12 ⟨rfl, hb⟩; refine ⟨_, rfl, ?_⟩; have n0_ := Aside0.mk (IsS119.below (by repeat (first | (with_reducible first | exact HI179.out | apply IsS119.alloc | apply IsS119.drewN | apply IsS119.drew | apply IsS119.set_1 | apply IsS119.set_2) | exact HI179.out)) hb); have n1_ := Aside0.mk (below_step (by repeat (first | (with_reducible first | exact HB.out | apply below_alloc | apply pw_below_drewN | apply below_drew1 | refine below_set ?_ (IsS119.ge HI179.out)) | exact HB.out)) hb); clear HI179; clear HB; have HI179 := n0_; have HB := n1_; clear n0_ n1_; (try clear hb); (try clear hb2); (try clear hk); (try clear hi)))
    go_ret2
    exact ⟨by first | rfl | (simp [errW_none, errW_some] <;> rfl) | (simp [*, errW_none, errW_some] <;> rfl), by repeat (first | (with_reducible first | exact HB.out | apply below_alloc | apply pw_below_drewN | apply below_drew1 | refine below_set ?_ (IsS119.ge HI179.out)) | exact HB.out)⟩
  · rw [if_neg c6] at H
    have c6b0 : (t186 == 0) = false := beq_eq_false_iff_ne.mpr c6
    have c6b1 : (t186 != 0) = true := bne_iff_ne.mpr c6
    by_cases c13 : t186 = 1
    · rw [if_pos c13] at H
      have c13b0 : (t186 == 1) = true := beq_iff_eq.mpr c13
      have c13b1 : (t186 != 1) = false := bne_eq_false_iff_eq.mpr c13
      clear c13
      replace H := Option.bind_eq_some_iff.mp H
      obtain ⟨t190, A140, H⟩ := H
      replace H : (some (t180, Go.bits .xor .i64 t190 1)) = some (r1, r2) := H
      have A14 := Aside0.mk A140
      clear A140
      simp only [Option.some.injEq, Prod.mk.injEq] at H
      obtain ⟨rfl, rfl⟩ := H
      go_enter Try.func49, Try.ntmps49
      go_wp2_with (first | ((with_reducible refine gate_callee (f := 79) rfl ?_); refine goesL_ (some 8) rfl rfl Try.func79 (by kernel_rfl) rfl #[.slice A0 l0.length c0] rfl (by (try simp only [List.map_toArray, List.map_cons, List.map_nil]); first | done | rfl | (simp only [List.length_drop, List.length_take]; rfl)) ?_; (with_reducible refine (spec_l1New.calls k _ _ l0 t176 t177 t178 w _ ?side1 ?side2 ?side3 A2.out).mono ?_); (case side1 => repeat (first | (with_reducible first | exact HB.out | apply below_alloc | apply pw_below_drewN | apply below_drew1) | exact HB.out)); (case side2 => exact HR0.out); (case side3 => exact HC0.out); rintro e w15 ⟨g179, rfl, hi, hb, hb2⟩; refine ⟨_, rfl, ?_⟩; have n0_ := Aside0.mk (hb); have n1_ := Aside0.mk (hi); clear HB; have HB := n0_; have HI179 := n1_; clear n0_ n1_; (try clear hb); (try clear hb2); (try clear hk); (try clear hi)) | ((with_reducible refine gate_callee (f := 80) rfl ?_); refine goesL_ (some 10) rfl rfl Try.func80 (by kernel_rfl) rfl #[.pointer (some ⟨g179, 0, none⟩)] rfl (by (try simp only [List.map_toArray, List.map_cons, List.map_nil]); first | done | rfl | (simp only [List.length_drop, List.length_take]; rfl)) ?_; (with_reducible refine (spec_l2Float.calls k g179 t176 t177 t178 t180 t181 t182 w _ ?side1 ?side2 A3.out).mono ?_); (case side1 => repeat (first | (with_reducible first | exact HI179.out | apply IsS119.alloc | apply IsS119.drewN | apply IsS119.drew | apply IsS119.set_1 | apply IsS119.set_2) | exact HI179.out)); (case side2 => repeat (first | (with_reducible first | exact HB.out | apply below_alloc | apply pw_below_drewN | apply below_drew1 | refine below_set ?_ (IsS119.ge HI179.out)) | exact HB.out)); rintro e w16 ⟨rfl, hi, hb, hk⟩; refine ⟨_, rfl, ?_⟩; have n0_ := Aside0.mk (hb); have n1_ := Aside0.mk (hi); clear HB; clear HI179; have HB := n0_; have HI179 := n1_; clear n0_ n1_; (try clear hb); (try clear hb2); (try clear hk); (try clear hi)) | ((with_reducible refine gate_callee (f := 80) rfl ?_); refine goesL_ (some 12) rfl rfl Try.func80 (by kernel_rfl) rfl #[.pointer (some ⟨g179, 0, none⟩)] rfl (by (try simp only [List.map_toArray, List.map_cons, List.map_nil]); first | done | rfl | (simp only [List.length_drop, List.length_take]; rfl)) ?_; (with_reducible refine (spec_l2Float.calls k g179 t176 t181 t182 t183 t184 t185 w _ ?side1 ?side2 A4.out).mono ?_); (case side1 => repeat (first | (with_reducible first | exact HI179.out | apply IsS119.alloc | apply IsS119.drewN | apply IsS119.drew | apply IsS119.set_1 | apply IsS119.set_2) | exact HI179.out)); (case side2 => repeat (first | (with_reducible first | exact HB.out | apply below_alloc | apply pw_below_drewN | apply below_drew1 | refine below_set ?_ (IsS119.ge HI179.out)) | exact HB.out)); rintro e w17 ⟨rfl, hi, hb, hk⟩; refine ⟨_, rfl, ?_⟩; have n0_ := Aside0.mk (hb); have n1_ := Aside0.mk (hi); clear HB; clear HI179; have HB := n0_; have HI179 := n1_; clear n0_ n1_; (try clear hb); (try clear hb2); (try clear hk); (try clear hi)) | ((with_reducible refine gate_callee (f := 81) rfl ?_); refine goesL_ (some 14) rfl rfl Try.func81 (by kernel_rfl) rfl #[.pointer (some ⟨g179, 0, none⟩), .int .i64 8] rfl (by (try simp only [List.map_toArray, List.map_cons, List.map_nil]); first | done | rfl | (simp only [List.length_drop, List.length_take]; rfl)) ?_; (with_reducible refine (spec_l1Below.calls g179 t176 t184 t185 8 t186 t187 t188 w _ ?side1 ?side2 A5.out).mono ?_); (case side1 => repeat (first | (with_reducible first | exact HI179.out | apply IsS119.alloc | apply IsS119.drewN | apply IsS119.drew | apply IsS119.set_1 | apply IsS119.set_2) | exact HI179.out)); (case side2 => repeat (first | (with_reducible first | exact HB.out | apply below_alloc | apply pw_below_drewN | apply below_drew1 | refine below_set ?_ (IsS119.ge HI179.out)) | exact HB.out)); rintro e w18 ⟨rfl, hi, hb, hk⟩; refine ⟨_, rfl, ?_⟩; have n0_ := Aside0.mk (hb); have n1_ := Aside0.mk (hi); clear HB; clear HI179; have HB := n0_; have HI179 := n1_; clear n0_ n1_; (try clear hb); (try clear hb2); (try clear hk); (try clear hi)) | ((with_reducible refine gate_callee (f := 82) rfl ?_); refine goesL_ (some 22) rfl rfl Try.func82 (by kernel_rfl) rfl #[.int .i64 t180] rfl (by (try simp only [List.map_toArray, List.map_cons, List.map_nil]); first | done | rfl | (simp only [List.length_drop, List.length_take]; rfl)) ?_; (with_reducible refine (spec_FNeg.calls k t180 t190 _ A14.out).mono ?_); rintro e w19 ⟨rfl, hb⟩; refine ⟨_, rfl, ?_⟩; have n0_ := Aside0.mk (IsS119.below (by repeat (first | (with_reducible first | exact HI179.out | apply IsS119.alloc | apply IsS119.drewN | apply IsS119.drew | apply IsS119.set_1 | apply IsS119.set_2) | exact HI179.out)) hb); have n1_ := Aside0.mk (below_step (by repeat (first | (with_reducible first | exact HB.out | apply below_alloc | apply pw_below_drewN | apply below_drew1 | refine below_set ?_ (IsS119.ge HI179.out)) | exact HB.out)) hb); clear HI179; clear HB; have HI179 := n0_; have HB := n1_; clear n0_ n1_; (try clear hb); (try clear hb2); (try clear hk); (try clear hi)))
      go_ret2
      exact ⟨by first | rfl | (simp [errW_none, errW_some] <;> rfl) | (simp [*, errW_none, errW_some] <;> rfl), by repeat (first | (with_reducible first | exact HB.out | apply below_alloc | apply pw_below_drewN | apply below_drew1 | refine below_set ?_ (IsS119.ge HI179.out)) | exact HB.out)⟩
    · rw [if_neg c13] at H
      have c13b0 : (t186 == 1) = false := beq_eq_false_iff_ne.mpr c13
      have c13b1 : (t186 != 1) = true := bne_iff_ne.mpr c13
      by_cases c20 : t186 = 2
      · rw [if_pos c20] at H
        have c20b0 : (t186 == 2) = true := beq_iff_eq.mpr c20
        have c20b1 : (t186 != 2) = false := bne_eq_false_iff_eq.mpr c20
        clear c20
        simp only [Option.some.injEq, Prod.mk.injEq] at H
        obtain ⟨rfl, rfl⟩ := H
        go_enter Try.func49, Try.ntmps49
        go_wp2_with (first | ((with_reducible refine gate_callee (f := 79) rfl ?_); refine goesL_ (some 8) rfl rfl Try.func79 (by kernel_rfl) rfl #[.slice A0 l0.length c0] rfl (by (try simp only [List.map_toArray, List.map_cons, List.map_nil]); first | done | rfl | (simp only [List.length_drop, List.length_take]; rfl)) ?_; (with_reducible refine (spec_l1New.calls k _ _ l0 t176 t177 t178 w _ ?side1 ?side2 ?side3 A2.out).mono ?_); (case side1 => repeat (first | (with_reducible first | exact HB.out | apply below_alloc | apply pw_below_drewN | apply below_drew1) | exact HB.out)); (case side2 => exact HR0.out); (case side3 => exact HC0.out); rintro e w21 ⟨g179, rfl, hi, hb, hb2⟩; refine ⟨_, rfl, ?_⟩; have n0_ := Aside0.mk (hb); have n1_ := Aside0.mk (hi); clear HB; have HB := n0_; have HI179 := n1_; clear n0_ n1_; (try clear hb); (try clear hb2); (try clear hk); (try clear hi)) | ((with_reducible refine gate_callee (f := 80) rfl ?_); refine goesL_ (some 10) rfl rfl Try.func80 (by kernel_rfl) rfl #[.pointer (some ⟨g179, 0, none⟩)] rfl (by (try simp only [List.map_toArray, List.map_cons, List.map_nil]); first | done | rfl | (simp only [List.length_drop, List.length_take]; rfl)) ?_; (with_reducible refine (spec_l2Float.calls k g179 t176 t177 t178 t180 t181 t182 w _ ?side1 ?side2 A3.out).mono ?_); (case side1 => repeat (first | (with_reducible first | exact HI179.out | apply IsS119.alloc | apply IsS119.drewN | apply IsS119.drew | apply IsS119.set_1 | apply IsS119.set_2) | exact HI179.out)); (case side2 => repeat (first | (with_reducible first | exact HB.out | apply below_alloc | apply pw_below_drewN | apply below_drew1 | refine below_set ?_ (IsS119.ge HI179.out)) | exact HB.out)); rintro e w22 ⟨rfl, hi, hb, hk⟩; refine ⟨_, rfl, ?_⟩; have n0_ := Aside0.mk (hb); have n1_ := Aside0.mk (hi); clear HB; clear HI179; have HB := n0_; have HI179 := n1_; clear n0_ n1_; (try clear hb); (try clear hb2); (try clear hk); (try clear hi)) | ((with_reducible refine gate_callee (f := 80) rfl ?_); refine goesL_ (some 12) rfl rfl Try.func80 (by kernel_rfl) rfl #[.pointer (some ⟨g179, 0, none⟩)] rfl (by (try simp only [List.map_toArray, List.map_cons, List.map_nil]); first | done | rfl | (simp only [List.length_drop, List.length_take]; rfl)) ?_; (with_reducible refine (spec_l2Float.calls k g179 t176 t181 t182 t183 t184 t185 w _ ?side1 ?side2 A4.out).mono ?_); (case side1 => repeat (first | (with_reducible first | exact HI179.out | apply IsS119.alloc | apply IsS119.drewN | apply IsS119.drew | apply IsS119.set_1 | apply IsS119.set_2) | exact HI179.out)); (case side2 => repeat (first | (with_reducible first | exact HB.out | apply below_alloc | apply pw_below_drewN | apply below_drew1 | refine below_set ?_ (IsS119.ge HI179.out)) | exact HB.out)); rintro e w23 ⟨rfl, hi, hb, hk⟩; refine ⟨_, rfl, ?_⟩; have n0_ := Aside0.mk (hb); have n1_ := Aside0.mk (hi); clear HB; clear HI179; have HB := n0_; have HI179 := n1_; clear n0_ n1_; (try clear hb); (try clear hb2); (try clear hk); (try clear hi)) | ((with_reducible refine gate_callee (f := 81) rfl ?_); refine goesL_ (some 14) rfl rfl Try.func81 (by kernel_rfl) rfl #[.pointer (some ⟨g179, 0, none⟩), .int .i64 8] rfl (by (try simp only [List.map_toArray, List.map_cons, List.map_nil]); first | done | rfl | (simp only [List.length_drop, List.length_take]; rfl)) ?_; (with_reducible refine (spec_l1Below.calls g179 t176 t184 t185 8 t186 t187 t188 w _ ?side1 ?side2 A5.out).mono ?_); (case side1 => repeat (first | (with_reducible first | exact HI179.out | apply IsS119.alloc | apply IsS119.drewN | apply IsS119.drew | apply IsS119.set_1 | apply IsS119.set_2) | exact HI179.out)); (case side2 => repeat (first | (with_reducible first | exact HB.out | apply below_alloc | apply pw_below_drewN | apply below_drew1 | refine below_set ?_ (IsS119.ge HI179.out)) | exact HB.out)); rintro e w24 ⟨rfl, hi, hb, hk⟩; refine ⟨_, rfl, ?_⟩; have n0_ := Aside0.mk (hb); have n1_ := Aside0.mk (hi); clear HB; clear HI179; have HB := n0_; have HI179 := n1_; clear n0_ n1_; (try clear hb); (try clear hb2); (try clear hk); (try clear hi)))
        go_ret2
        exact ⟨by first | rfl | (simp [errW_none, errW_some] <;> rfl) | (simp [*, errW_none, errW_some] <;> rfl), by repeat (first | (with_reducible first | exact HB.out | apply below_alloc | apply pw_below_drewN | apply below_drew1 | refine below_set ?_ (IsS119.ge HI179.out)) | exact HB.out)⟩
      · rw [if_neg c20] at H
        have c20b0 : (t186 == 2) = false := beq_eq_false_iff_ne.mpr c20
        have c20b1 : (t186 != 2) = true := bne_iff_ne.mpr c20
        simp only [Option.some.injEq, Prod.mk.injEq] at H
        obtain ⟨rfl, rfl⟩ := H
        go_enter Try.func49, Try.ntmps49
        go_wp2_with (first | ((with_reducible refine gate_callee (f := 79) rfl ?_); refine goesL_ (some 8) rfl rfl Try.func79 (by kernel_rfl) rfl #[.slice A0 l0.length c0] rfl (by (try simp only [List.map_toArray, List.map_cons, List.map_nil]); first | done | rfl | (simp only [List.length_drop, List.length_take]; rfl)) ?_; (with_reducible refine (spec_l1New.calls k _ _ l0 t176 t177 t178 w _ ?side1 ?side2 ?side3 A2.out).mono ?_); (case side1 => repeat (first | (with_reducible first | exact HB.out | apply below_alloc | apply pw_below_drewN | apply below_drew1) | exact HB.out)); (case side2 => exact HR0.out); (case side3 => exact HC0.out); rintro e w25 ⟨g179, rfl, hi, hb, hb2⟩; refine ⟨_, rfl, ?_⟩; have n0_ := Aside0.mk (hb); have n1_ := Aside0.mk (hi); clear HB; have HB := n0_; have HI179 := n1_; clear n0_ n1_; (try clear hb); (try clear hb2); (try clear hk); (try clear hi)) | ((with_reducible refine gate_callee (f := 80) rfl ?_); refine goesL_ (some 10) rfl rfl Try.func80 (by kernel_rfl) rfl #[.pointer (some ⟨g179, 0, none⟩)] rfl (by (try simp only [List.map_toArray, List.map_cons, List.map_nil]); first | done | rfl | (simp only [List.length_drop, List.length_take]; rfl)) ?_; (with_reducible refine (spec_l2Float.calls k g179 t176 t177 t178 t180 t181 t182 w _ ?side1 ?side2 A3.out).mono ?_); (case side1 => repeat (first | (with_reducible first | exact HI179.out | apply IsS119.alloc | apply IsS119.drewN | apply IsS119.drew | apply IsS119.set_1 | apply IsS119.set_2) | exact HI179.out)); (case side2 => repeat (first | (with_reducible first | exact HB.out | apply below_alloc | apply pw_below_drewN | apply below_drew1 | refine below_set ?_ (IsS119.ge HI179.out)) | exact HB.out)); rintro e w26 ⟨rfl, hi, hb, hk⟩; refine ⟨_, rfl, ?_⟩; have n0_ := Aside0.mk (hb); have n1_ := Aside0.mk (hi); clear HB; clear HI179; have HB := n0_; have HI179 := n1_; clear n0_ n1_; (try clear hb); (try clear hb2); (try clear hk); (try clear hi)) | ((with_reducible refine gate_callee (f := 80) rfl ?_); refine goesL_ (some 12) rfl rfl Try.func80 (by kernel_rfl) rfl #[.pointer (some ⟨g179, 0, none⟩)] rfl (by (try simp only [List.map_toArray, List.map_cons, List.map_nil]); first | done | rfl | (simp only [List.length_drop, List.length_take]; rfl)) ?_; (with_reducible refine (spec_l2Float.calls k g179 t176 t181 t182 t183 t184 t185 w _ ?side1 ?side2 A4.out).mono ?_); (case side1 => repeat (first | (with_reducible first | exact HI179.out | apply IsS119.alloc | apply IsS119.drewN | apply IsS119.drew | apply IsS119.set_1 | apply IsS119.set_2) | exact HI179.out)); (case side2 => repeat (first | (with_reducible first | exact HB.out | apply below_alloc | apply pw_below_drewN | apply below_drew1 | refine below_set ?_ (IsS119.ge HI179.out)) | exact HB.out)); rintro e w27 ⟨rfl, hi, hb, hk⟩; refine ⟨_, rfl, ?_⟩; have n0_ := Aside0.mk (hb); have n1_ := Aside0.mk (hi); clear HB; clear HI179; have HB := n0_; have HI179 := n1_; clear n0_ n1_; (try clear hb); (try clear hb2); (try clear hk); (try clear hi)) | ((with_reducible refine gate_callee (f := 81) rfl ?_); refine goesL_ (some 14) rfl rfl Try.func81 (by kernel_rfl) rfl #[.pointer (some ⟨g179, 0, none⟩), .int .i64 8] rfl (by (try simp only [List.map_toArray, List.map_cons, List.map_nil]); first | done | rfl | (simp only [List.length_drop, List.length_take]; rfl)) ?_; (with_reducible refine (spec_l1Below.calls g179 t176 t184 t185 8 t186 t187 t188 w _ ?side1 ?side2 A5.out).mono ?_); (case side1 => repeat (first | (with_reducible first | exact HI179.out | apply IsS119.alloc | apply IsS119.drewN | apply IsS119.drew | apply IsS119.set_1 | apply IsS119.set_2) | exact HI179.out)); (case side2 => repeat (first | (with_reducible first | exact HB.out | apply below_alloc | apply pw_below_drewN | apply below_drew1 | refine below_set ?_ (IsS119.ge HI179.out)) | exact HB.out)); rintro e w28 ⟨rfl, hi, hb, hk⟩; refine ⟨_, rfl, ?_⟩; have n0_ := Aside0.mk (hb); have n1_ := Aside0.mk (hi); clear HB; clear HI179; have HB := n0_; have HI179 := n1_; clear n0_ n1_; (try clear hb); (try clear hb2); (try clear hk); (try clear hi)))
        go_ret2
        exact ⟨by first | rfl | (simp [errW_none, errW_some] <;> rfl) | (simp [*, errW_none, errW_some] <;> rfl), by repeat (first | (with_reducible first | exact HB.out | apply below_alloc | apply pw_below_drewN | apply below_drew1 | refine below_set ?_ (IsS119.ge HI179.out)) | exact HB.out)⟩

/-! ### spec_DrawFAdd: function 18 -/
def spec_DrawFAdd.f (k : Nat) (l0 : List Int) : Option (Int × Int) := (spec_l2TwoFloats.f k l0).bind fun bt191 => (some (bt191.1, bt191.2))
theorem spec_DrawFAdd.mono : ∀ a0 k, LeO (spec_DrawFAdd.f k a0) (spec_DrawFAdd.f (k + 1) a0) := by
  intro a0 k
  unfold spec_DrawFAdd.f
  repeat' first
      | (with_reducible exact spec_l2TwoFloats.mono _ _)
      | (with_reducible exact LeO.refl _)
      | (with_reducible exact LeO.none _)
      | (with_reducible refine LeO.ite ?_ ?_)
      | (with_reducible refine LeO.bind ?_ (fun _ => ?_))
      | exact spec_l2TwoFloats.mono _ _
      | exact LeO.none _
      | refine LeO.ite ?_ ?_
      | refine LeO.bind ?_ (fun _ => ?_)
set_option maxHeartbeats 8000000 in
set_option maxRecDepth 100000 in
theorem spec_DrawFAdd.calls (k : Nat) (A0 : Option Addr) (c0 : Nat) (l0 : List Int) (r1 : Int) (r2 : Int) (w : World) (hr0 : Kd.C (Kd.int .u8) w A0 l0.length l0) (hc0 : l0.length ≤ c0) (h : spec_DrawFAdd.f k l0 = some (r1, r2)) :
    Calls Try.prog 18 #[.slice A0 l0.length c0] w fun e w' => e = .returned (.tuple #[.int .i64 r1, .int .i64 r2]) ∧ Below w.heap.size w w' := by
  have HR0 := Aside0.mk hr0
  have HC0 := Aside0.mk hc0
  clear hr0 hc0
  have HB := Aside0.mk (Below.refl w.heap.size w)
  have H : ((spec_l2TwoFloats.f k l0).bind fun bt191 => (some (bt191.1, bt191.2))) = some (r1, r2) := h
  clear h
  replace H := Option.bind_eq_some_iff.mp H
  obtain ⟨⟨t191, t192⟩, A20, H⟩ := H
  replace H : (some (t191, t192)) = some (r1, r2) := H
  have A2 := Aside0.mk A20
  clear A20
  simp only [Option.some.injEq, Prod.mk.injEq] at H
  obtain ⟨rfl, rfl⟩ := H
  go_enter Try.func18, Try.ntmps18
  go_wp2_with (first | ((with_reducible refine gate_callee (f := 49) rfl ?_); refine goesL_ (some 5) rfl rfl Try.func49 (by kernel_rfl) rfl #[.slice A0 l0.length c0] rfl (by (try simp only [List.map_toArray, List.map_cons, List.map_nil]); first | done | rfl | (simp only [List.length_drop, List.length_take]; rfl)) ?_; (with_reducible refine (spec_l2TwoFloats.calls k _ _ l0 t191 t192 _ ?side1 ?side2 A2.out).mono ?_); (case side1 => repeat (first | exact HR0.out | (with_reducible refine Kd.C_alloc ?_ _) | (with_reducible refine Kd.C_drewN ?_ _) | (with_reducible refine Kd.C_drew ?_))); (case side2 => exact HC0.out); rintro e w3 ⟨rfl, hb⟩; refine ⟨_, rfl, ?_⟩; have n0_ := Aside0.mk (below_step (by repeat (first | (with_reducible first | exact HB.out | apply below_alloc | apply pw_below_drewN | apply below_drew1) | exact HB.out)) hb); clear HB; have HB := n0_; clear n0_; (try clear hb); (try clear hb2); (try clear hk); (try clear hi)))
  go_ret2
  exact ⟨by first | rfl | (simp [errW_none, errW_some] <;> rfl) | (simp [*, errW_none, errW_some] <;> rfl), by repeat (first | (with_reducible first | exact HB.out | apply below_alloc | apply pw_below_drewN | apply below_drew1) | exact HB.out)⟩

/-! ### impl_bitsOf: function 50 -/
def impl_bitsOf.v (n : Nat) : Int := if (Ieee.single.order n n == some .eq) = true then (n : Int) else 2143289344
def impl_bitsOf.f (a0 : Int) : Option (Int) := if a0.toNat < 4294967296 then some (impl_bitsOf.v a0.toNat) else none
theorem impl_bitsOf.bits (n : Nat) (w : World) : (callFunc 83 #[.float .f32 n]).run Try.prog w = .ok (.value (.int .u32 n)) w := by
  rw [run_callFunc_extern Try.func83 (by kernel_rfl) (by kernel_rfl) (by kernel_rfl) (e := Extern.MathFloatBits.float32bits) (by kernel_rfl)]
  rfl
set_option maxHeartbeats 1000000 in
theorem impl_bitsOf.calls_ (n : Nat) (hn : n < 4294967296) (w : World) : Calls Try.prog 50 #[.float .f32 n] w fun e w' => e = .returned (.int .i64 (impl_bitsOf.v n)) ∧ w = w' := by
  have h1 := impl_bitsOf.bits n
  have hn2 : (n : Int) ≤ 4294967295 := by omega
  clear hn
  unfold impl_bitsOf.v
  cases c : (Ieee.single.order n n == some .eq) with
  | true =>
    rw [if_pos rfl]
    have c1 : (FloatKind.f32.format.order n n != some .eq) = false := by
      rw [bne, show FloatKind.f32.format = Ieee.single from rfl, c]
      rfl
    clear c
    go_enter Try.func50, Try.ntmps50
    go_wp2
    go_ret
    exact ⟨rfl, rfl⟩
  | false =>
    rw [if_neg (by simp)]
    have c1 : (FloatKind.f32.format.order n n != some .eq) = true := by
      rw [bne, show FloatKind.f32.format = Ieee.single from rfl, c]
      rfl
    clear c
    go_enter Try.func50, Try.ntmps50
    go_wp2
    go_ret
    exact ⟨rfl, rfl⟩
theorem impl_bitsOf.of_nan (c : Nat) (h : 2139095040 < c % 2147483648) : impl_bitsOf.v c = 2143289344 := by
  have e : ∃ s f, Ieee.single.read c = .nan s f := by
    refine ⟨(c / Ieee.single.signWeight % 2 == 1), c % Ieee.single.signWeight - Ieee.single.infRung, ?_⟩
    have e1 : Ieee.single.signWeight = 2147483648 := by simp [Ieee.Format.signWeight, Ieee.single]
    have e2 : Ieee.single.binade = 8388608 := by simp [Ieee.Format.binade, Ieee.single]
    have e3 : Ieee.single.infRung = 2139095040 := by simp [Ieee.Format.infRung, Ieee.Format.binade, Ieee.single]
    unfold Ieee.Format.read
    simp only [e1, e2, e3]
    rw [if_neg (by omega), if_neg (by omega), if_neg (by omega)]
  obtain ⟨s, f, e⟩ := e
  unfold impl_bitsOf.v Ieee.Format.order
  rw [e]
  rfl
set_option maxHeartbeats 8000000 in
set_option maxRecDepth 100000 in
theorem impl_bitsOf.calls (a0 : Int) (r : Int) (w : World) (h : impl_bitsOf.f a0 = some r) :
    Calls Try.prog 50 #[.float .f32 a0.toNat] w fun e w' => e = .returned (.int .i64 r) ∧ Drawn0 w w' := by
  unfold impl_bitsOf.f at h
  by_cases hb : a0.toNat < 4294967296
  · rw [if_pos hb] at h
    obtain rfl := Option.some.inj h
    refine (impl_bitsOf.calls_ a0.toNat hb w).mono ?_
    rintro e w' ⟨rfl, rfl⟩
    exact ⟨rfl, Drawn0.refl _⟩
  · rw [if_neg hb] at h
    cases h

/-! ### impl_single: function 51 -/
def impl_single.v (a0 : Int) : Nat := if a0 < 0 then 2143289344 else if a0 > 4294967295 then 2143289344 else a0.toNat
def impl_single.f (a0 : Int) : Option (Int) := some (impl_single.v a0 : Int)
theorem impl_single.bits (n : Int) (w : World) : (callFunc 84 #[.int .u32 n]).run Try.prog w = .ok (.value (.float .f32 n.toNat)) w := by
  rw [run_callFunc_extern Try.func84 (by kernel_rfl) (by kernel_rfl) (by kernel_rfl) (e := Extern.MathFloatBits.float32frombits) (by kernel_rfl)]
  rfl
theorem impl_single.lt (a : Int) : impl_single.v a < 4294967296 := by
  unfold impl_single.v
  split
  · omega
  · split <;> omega
set_option maxHeartbeats 1000000 in
theorem impl_single.calls_ (a : Int) (w : World) : Calls Try.prog 51 #[.int .i64 a] w fun e w' => e = .returned (.float .f32 (impl_single.v a)) ∧ w = w' := by
  have h1 := impl_single.bits
  unfold impl_single.v
  by_cases c1 : a < 0
  · rw [if_pos c1]
    have c1b : decide (a < 0) = true := decide_eq_true c1
    clear c1
    go_enter Try.func51, Try.ntmps51
    go_wp2
    go_ret
    exact ⟨rfl, rfl⟩
  · rw [if_neg c1]
    have c1b : decide (a < 0) = false := decide_eq_false c1
    by_cases c2 : a > 4294967295
    · rw [if_pos c2]
      have c2b : decide (4294967295 < a) = true := decide_eq_true c2
      clear c1 c2
      go_enter Try.func51, Try.ntmps51
      go_wp2
      go_ret
      exact ⟨rfl, rfl⟩
    · rw [if_neg c2]
      have c2b : decide (4294967295 < a) = false := decide_eq_false c2
      have h0 : 0 ≤ a := by omega
      have h2 : a ≤ 4294967295 := by omega
      clear c1 c2
      go_enter Try.func51, Try.ntmps51
      go_wp2
      go_ret
      exact ⟨rfl, rfl⟩
set_option maxHeartbeats 8000000 in
set_option maxRecDepth 100000 in
theorem impl_single.calls (a0 : Int) (r : Int) (w : World) (h : impl_single.f a0 = some r) :
    Calls Try.prog 51 #[.int .i64 a0] w fun e w' => e = .returned (.float .f32 r.toNat) ∧ Drawn0 w w' := by
  obtain rfl := Option.some.inj h
  refine (impl_single.calls_ a0 w).mono ?_
  rintro e w' ⟨rfl, rfl⟩
  exact ⟨by rw [Int.toNat_natCast], Drawn0.refl _⟩

/-! ### impl_FAdd: function 19 -/
def impl_FAdd.v (a0 a1 : Int) : Int := match Ieee.single.add (impl_single.v a0) (impl_single.v a1) with
  | some r => impl_bitsOf.v r
  | none => 2143289344
def impl_FAdd.f (a0 : Int) (a1 : Int) : Option (Int) := some (impl_FAdd.v a0 a1)
/-- A NaN of the model's choosing. -/
theorem impl_FAdd.nan (x y : Nat) (t : TypeId) (h : Ieee.single.add x y = none) : ∃ g : World → Nat, (∀ w, (binOp .add t (.float .f32 x) (.float .f32 y)).run Try.prog w = .ok (.float .f32 (g w)) w.drew) ∧ ∀ w, g w < 4294967296 ∧ impl_bitsOf.v (g w) = 2143289344 := by
  refine ⟨fun w => (Question.nanBits .f32 x y).cut (w.tape w.drawn (.nanBits .f32 x y)), fun w => ?_, fun w => ?_⟩
  · have h' : FloatKind.f32.format.add x y = none := h
    simp [binOp, Op.floatArith, h', Question.forced]
  · have h1 : (Question.nanBits .f32 x y).cut (w.tape w.drawn (.nanBits .f32 x y)) = w.tape w.drawn (.nanBits .f32 x y) % 2 * 2 ^ 31 + 0x7f800000 + 1 + w.tape w.drawn (.nanBits .f32 x y) / 2 % (2 ^ 23 - 1) := rfl
    simp only [h1]
    generalize w.tape w.drawn (.nanBits .f32 x y) = u
    have e1 : u % 2 * 2 ^ 31 = u % 2 * 2147483648 := rfl
    have e2 : u / 2 % (2 ^ 23 - 1) = u / 2 % 8388607 := rfl
    rw [e1, e2]
    have := Nat.mod_lt (u / 2) (show 0 < 8388607 by omega)
    generalize u / 2 % 8388607 = v at *
    rcases Nat.mod_two_eq_zero_or_one u with h | h
    all_goals rw [h]
    all_goals exact ⟨by omega, impl_bitsOf.of_nan _ (by omega)⟩
set_option maxHeartbeats 8000000 in
set_option maxRecDepth 100000 in
theorem impl_FAdd.calls (a0 : Int) (a1 : Int) (r : Int) (w : World) (h : impl_FAdd.f a0 a1 = some r) :
    Calls Try.prog 19 #[.int .i64 a0, .int .i64 a1] w fun e w' => e = .returned (.int .i64 r) ∧ Drawn0 w w' := by
  obtain rfl := Option.some.inj h
  clear h
  unfold impl_FAdd.v
  cases c : Ieee.single.add (impl_single.v a0) (impl_single.v a1) with
  | some q =>
    have hq : q < 4294967296 := Ieee.Format.add_lt _ c
    have hadd := fun w : World => run_float_arith (P := Try.prog) w .add 77 .f32 _ _ _ c
    have HQ := Aside0.mk hq
    clear c hq
    go_enter Try.func19, Try.ntmps19
    go_wp2_with (first | (go_at_call 51; refine (impl_single.calls_ _ _).mono ?_; rintro e w' ⟨rfl, rfl⟩) | (go_at_call 50; refine (impl_bitsOf.calls_ _ HQ.out _).mono ?_; rintro e w' ⟨rfl, rfl⟩))
    go_ret
    exact ⟨rfl, Drawn0.refl _⟩
  | none =>
    obtain ⟨g, hadd, hg⟩ := impl_FAdd.nan _ _ 77 c
    have HG := Aside0.mk hg
    clear c hg
    go_enter Try.func19, Try.ntmps19
    go_wp2_with (first | (go_at_call 51; refine (impl_single.calls_ _ _).mono ?_; rintro e w' ⟨rfl, rfl⟩) | (go_at_call 50; refine (impl_bitsOf.calls_ _ (HG.out _).1 _).mono ?_; rw [(HG.out _).2]; rintro e w' ⟨rfl, rfl⟩))
    go_ret
    exact ⟨rfl, ⟨⟨1, rfl⟩⟩⟩

/-! ### impl_FOfInt: function 20 -/
def impl_FOfInt.n (a0 : Int) : Nat := floatOfInt .f32 a0
def impl_FOfInt.f (a0 : Int) : Option (Int) := some (impl_bitsOf.v (impl_FOfInt.n a0))
theorem impl_FOfInt.lt (a0 : Int) : impl_FOfInt.n a0 < 4294967296 := by
  have h := Ieee.Format.write_lt Ieee.single (.number (a0 < 0) a0.natAbs 0)
  have e : 2 ^ Ieee.single.width = 4294967296 := by simp [Ieee.Format.width, Ieee.single]
  rw [e] at h
  exact h
set_option maxHeartbeats 8000000 in
set_option maxRecDepth 100000 in
theorem impl_FOfInt.calls (a0 : Int) (r : Int) (w : World) (h : impl_FOfInt.f a0 = some r) :
    Calls Try.prog 20 #[.int .i64 a0] w fun e w' => e = .returned (.int .i64 r) ∧ Drawn0 w w' := by
  obtain rfl := Option.some.inj h
  clear h
  have HQ := Aside0.mk (impl_FOfInt.lt a0)
  have hcv : ∀ w : World, (convert 3 77 (.int .i64 a0)).run Try.prog w = .ok (.float .f32 (impl_FOfInt.n a0)) w := fun w => run_convert_int_float w 3 77 .i64 .f32 a0 (Option.isSome_iff_exists.2 ⟨_, Try.underlying3⟩) Try.underlying77
  go_enter Try.func20, Try.ntmps20
  go_wp2_with (first | (go_at_call 50; refine (impl_bitsOf.calls_ _ HQ.out _).mono ?_; rintro e w' ⟨rfl, rfl⟩))
  go_ret
  exact ⟨rfl, Drawn0.refl _⟩

/-! ### impl_FMul: function 21 -/
def impl_FMul.v (a0 a1 : Int) : Int := match Ieee.single.mul (impl_single.v a0) (impl_single.v a1) with
  | some r => impl_bitsOf.v r
  | none => 2143289344
def impl_FMul.f (a0 : Int) (a1 : Int) : Option (Int) := some (impl_FMul.v a0 a1)
/-- A NaN of the model's choosing. -/
theorem impl_FMul.nan (x y : Nat) (t : TypeId) (h : Ieee.single.mul x y = none) : ∃ g : World → Nat, (∀ w, (binOp .mul t (.float .f32 x) (.float .f32 y)).run Try.prog w = .ok (.float .f32 (g w)) w.drew) ∧ ∀ w, g w < 4294967296 ∧ impl_bitsOf.v (g w) = 2143289344 := by
  refine ⟨fun w => (Question.nanBits .f32 x y).cut (w.tape w.drawn (.nanBits .f32 x y)), fun w => ?_, fun w => ?_⟩
  · have h' : FloatKind.f32.format.mul x y = none := h
    simp [binOp, Op.floatArith, h', Question.forced]
  · have h1 : (Question.nanBits .f32 x y).cut (w.tape w.drawn (.nanBits .f32 x y)) = w.tape w.drawn (.nanBits .f32 x y) % 2 * 2 ^ 31 + 0x7f800000 + 1 + w.tape w.drawn (.nanBits .f32 x y) / 2 % (2 ^ 23 - 1) := rfl
    simp only [h1]
    generalize w.tape w.drawn (.nanBits .f32 x y) = u
    have e1 : u % 2 * 2 ^ 31 = u % 2 * 2147483648 := rfl
    have e2 : u / 2 % (2 ^ 23 - 1) = u / 2 % 8388607 := rfl
    rw [e1, e2]
    have := Nat.mod_lt (u / 2) (show 0 < 8388607 by omega)
    generalize u / 2 % 8388607 = v at *
    rcases Nat.mod_two_eq_zero_or_one u with h | h
    all_goals rw [h]
    all_goals exact ⟨by omega, impl_bitsOf.of_nan _ (by omega)⟩
set_option maxHeartbeats 8000000 in
set_option maxRecDepth 100000 in
theorem impl_FMul.calls (a0 : Int) (a1 : Int) (r : Int) (w : World) (h : impl_FMul.f a0 a1 = some r) :
    Calls Try.prog 21 #[.int .i64 a0, .int .i64 a1] w fun e w' => e = .returned (.int .i64 r) ∧ Drawn0 w w' := by
  obtain rfl := Option.some.inj h
  clear h
  unfold impl_FMul.v
  cases c : Ieee.single.mul (impl_single.v a0) (impl_single.v a1) with
  | some q =>
    have hq : q < 4294967296 := Ieee.Format.mul_lt _ c
    have hadd := fun w : World => run_float_arith (P := Try.prog) w .mul 77 .f32 _ _ _ c
    have HQ := Aside0.mk hq
    clear c hq
    go_enter Try.func21, Try.ntmps21
    go_wp2_with (first | (go_at_call 51; refine (impl_single.calls_ _ _).mono ?_; rintro e w' ⟨rfl, rfl⟩) | (go_at_call 50; refine (impl_bitsOf.calls_ _ HQ.out _).mono ?_; rintro e w' ⟨rfl, rfl⟩))
    go_ret
    exact ⟨rfl, Drawn0.refl _⟩
  | none =>
    obtain ⟨g, hadd, hg⟩ := impl_FMul.nan _ _ 77 c
    have HG := Aside0.mk hg
    clear c hg
    go_enter Try.func21, Try.ntmps21
    go_wp2_with (first | (go_at_call 51; refine (impl_single.calls_ _ _).mono ?_; rintro e w' ⟨rfl, rfl⟩) | (go_at_call 50; refine (impl_bitsOf.calls_ _ (HG.out _).1 _).mono ?_; rw [(HG.out _).2]; rintro e w' ⟨rfl, rfl⟩))
    go_ret
    exact ⟨rfl, ⟨⟨1, rfl⟩⟩⟩

/-! ### impl_FLess: function 22 -/
def impl_FLess.v (a0 a1 : Int) : Bool := Ieee.single.order (impl_single.v a0) (impl_single.v a1) == some .lt
def impl_FLess.f (a0 : Int) (a1 : Int) : Option (Bool) := some (impl_FLess.v a0 a1)
set_option maxHeartbeats 8000000 in
set_option maxRecDepth 100000 in
theorem impl_FLess.calls (a0 : Int) (a1 : Int) (r : Bool) (w : World) (h : impl_FLess.f a0 a1 = some r) :
    Calls Try.prog 22 #[.int .i64 a0, .int .i64 a1] w fun e w' => e = .returned (.bool r) ∧ Drawn0 w w' := by
  obtain rfl := Option.some.inj h
  clear h
  go_enter Try.func22, Try.ntmps22
  go_wp2_with (first | (go_at_call 51; refine (impl_single.calls_ _ _).mono ?_; rintro e w' ⟨rfl, rfl⟩))
  go_ret
  exact ⟨rfl, Drawn0.refl _⟩

/-! ### impl_FNeg: function 23 -/
def impl_FNeg.v (a0 : Int) : Int := if (Ieee.single.order (impl_single.v a0) (impl_single.v a0) == some .eq) = true then Go.bits .xor .i64 a0 2147483648 else 2143289344
def impl_FNeg.f (a0 : Int) : Option (Int) := some (impl_FNeg.v a0)
set_option maxHeartbeats 8000000 in
set_option maxRecDepth 100000 in
theorem impl_FNeg.calls (a0 : Int) (r : Int) (w : World) (h : impl_FNeg.f a0 = some r) :
    Calls Try.prog 23 #[.int .i64 a0] w fun e w' => e = .returned (.int .i64 r) ∧ Drawn0 w w' := by
  obtain rfl := Option.some.inj h
  clear h
  unfold impl_FNeg.v
  cases c : (Ieee.single.order (impl_single.v a0) (impl_single.v a0) == some .eq) with
  | true =>
    rw [if_pos rfl]
    have c1 : (FloatKind.f32.format.order (impl_single.v a0) (impl_single.v a0) != some .eq) = false := by
      rw [bne, show FloatKind.f32.format = Ieee.single from rfl, c]
      rfl
    clear c
    go_enter Try.func23, Try.ntmps23
    go_wp2_with (first | (go_at_call 51; refine (impl_single.calls_ _ _).mono ?_; rintro e w' ⟨rfl, rfl⟩))
    go_ret
    exact ⟨rfl, Drawn0.refl _⟩
  | false =>
    rw [if_neg (by simp)]
    have c1 : (FloatKind.f32.format.order (impl_single.v a0) (impl_single.v a0) != some .eq) = true := by
      rw [bne, show FloatKind.f32.format = Ieee.single from rfl, c]
      rfl
    clear c
    go_enter Try.func23, Try.ntmps23
    go_wp2_with (first | (go_at_call 51; refine (impl_single.calls_ _ _).mono ?_; rintro e w' ⟨rfl, rfl⟩))
    go_ret
    exact ⟨rfl, Drawn0.refl _⟩

end Go.Proofs.Ytpoblnigmfbnfaa.PFnFloatSides
