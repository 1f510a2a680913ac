-- Printed out of the translation, hand-written contracts beside it; checked by the kernel alone.
import Derived.Test.YtpoblnigmfbnfacPFnExactFinishx0
import Derived.Test.YtpoblnigmfbnfacPFnExactFinishx1
namespace Go.Proofs.Ytpoblnigmfbnfac.PFnExactFinish
open Go.RowKit Go.Proofs.YtpoblnigmfbnfacW.PrintWords Go.Proofs.YtpoblnigmfbnfacW.PrintLast Go.Proofs.YtpoblnigmfbnfacW.PrintMore
attribute [local go_sem] max2_int min2_int max_two min_two max_three min_three max_four min_four   -- for this text's walks alone
set_option linter.unusedVariables false
set_option linter.unusedSimpArgs false

/-! ### spec_MovesOk: function 72 -/
mutual
def spec_MovesOk.j0 : Nat → List (List (S92)) → Int → Int → Bool → Option (Bool)
  | 0, _, _, _, _ => none
  | k + 1, x0, x1, x2, x24 => if x24 = true then (some false) else (spec_MovesOk.l0 k x0 x1 x2 0 0)
def spec_MovesOk.l0 : Nat → List (List (S92)) → Int → Int → Int → Int → Option (Bool)
  | 0, _, _, _, _, _ => none
  | k + 1, x0, x1, x2, x7, x8 => if x8 < (x0.length : Int) then (if 0 ≤ x8 then (if (wrap64 (x7 + ((rd_L5 x0 x8).length : Int))) > 5000 then (some false) else (spec_MovesOk.l1 k x0 x1 x2 (wrap64 (x7 + ((rd_L5 x0 x8).length : Int))) x8 0)) else (none)) else (some true)
def spec_MovesOk.l1 : Nat → List (List (S92)) → Int → Int → Int → Int → Int → Option (Bool)
  | 0, _, _, _, _, _, _ => none
  | k + 1, x0, x1, x2, x7, x8, x9 => if 0 ≤ x8 then (if x8 < (x0.length : Int) then (if x9 < ((rd_L5 x0 x8).length : Int) then (if 0 ≤ x9 then ((spec_l5In.f ((rd_T92 (rd_L5 x0 x8) x9).f0) 0 (wrap64 (x1 - 1))).bind fun t125 => (if t125 = true then ((spec_l5In.f ((rd_T92 (rd_L5 x0 x8) x9).f1) 0 (wrap64 (x1 - 1))).bind fun t126 => (if t126 = true then (if ((rd_T92 (rd_L5 x0 x8) x9).f0) = ((rd_T92 (rd_L5 x0 x8) x9).f1) then (spec_MovesOk.j3 k x0 x1 x2 x7 x8 x9 true ((rd_T92 (rd_L5 x0 x8) x9).f0) ((rd_T92 (rd_L5 x0 x8) x9).f1) ((rd_T92 (rd_L5 x0 x8) x9).f2) ((rd_T92 (rd_L5 x0 x8) x9).f3)) else ((spec_l5In.f ((rd_T92 (rd_L5 x0 x8) x9).f2) 0 (wrap64 (x2 - 1))).bind fun t127 => (spec_MovesOk.j3 k x0 x1 x2 x7 x8 x9 (!t127) ((rd_T92 (rd_L5 x0 x8) x9).f0) ((rd_T92 (rd_L5 x0 x8) x9).f1) ((rd_T92 (rd_L5 x0 x8) x9).f2) ((rd_T92 (rd_L5 x0 x8) x9).f3)))) else (spec_MovesOk.j3 k x0 x1 x2 x7 x8 x9 true ((rd_T92 (rd_L5 x0 x8) x9).f0) ((rd_T92 (rd_L5 x0 x8) x9).f1) ((rd_T92 (rd_L5 x0 x8) x9).f2) ((rd_T92 (rd_L5 x0 x8) x9).f3)))) else (spec_MovesOk.j3 k x0 x1 x2 x7 x8 x9 true ((rd_T92 (rd_L5 x0 x8) x9).f0) ((rd_T92 (rd_L5 x0 x8) x9).f1) ((rd_T92 (rd_L5 x0 x8) x9).f2) ((rd_T92 (rd_L5 x0 x8) x9).f3)))) else (none)) else (spec_MovesOk.l0 k x0 x1 x2 x7 (wrap64 (x8 + 1)))) else (none)) else (none)
def spec_MovesOk.j3 : Nat → List (List (S92)) → Int → Int → Int → Int → Int → Bool → Int → Int → Int → Bool → Option (Bool)
  | 0, _, _, _, _, _, _, _, _, _, _, _ => none
  | k + 1, x0, x1, x2, x7, x8, x9, x84, x125000, x125001, x125002, x125003 => if x84 = true then (some false) else (spec_MovesOk.l2 k x0 x1 x2 x7 x8 x9 0 x125000 x125001 x125002 x125003)
def spec_MovesOk.l2 : Nat → List (List (S92)) → Int → Int → Int → Int → Int → Int → Int → Int → Int → Bool → Option (Bool)
  | 0, _, _, _, _, _, _, _, _, _, _, _ => none
  | k + 1, x0, x1, x2, x7, x8, x9, x11, x125000, x125001, x125002, x125003 => if x11 < x9 then (if 0 ≤ x8 then (if x8 < (x0.length : Int) then (if 0 ≤ x11 then (if x11 < ((rd_L5 x0 x8).length : Int) then (if ((rd_T92 (rd_L5 x0 x8) x11).f1) = x125001 then (if ((rd_T92 (rd_L5 x0 x8) x11).f2) = x125002 then (some false) else (spec_MovesOk.l2 k x0 x1 x2 x7 x8 x9 (wrap64 (x11 + 1)) x125000 x125001 x125002 x125003)) else (spec_MovesOk.l2 k x0 x1 x2 x7 x8 x9 (wrap64 (x11 + 1)) x125000 x125001 x125002 x125003)) else (none)) else (none)) else (none)) else (none)) else (spec_MovesOk.l1 k x0 x1 x2 x7 x8 (wrap64 (x9 + 1)))
end
def spec_MovesOk.f (k : Nat) (l0 : List (List (S92))) (a1 : Int) (a2 : Int) : Option (Bool) := (spec_l5In.f a1 1 64).bind fun t118 => (if t118 = true then ((spec_l5In.f a2 1 64).bind fun t119 => (if t119 = true then (spec_MovesOk.j0 k l0 a1 a2 (decide ((l0.length : Int) > 300))) else (spec_MovesOk.j0 k l0 a1 a2 true))) else (spec_MovesOk.j0 k l0 a1 a2 true))
theorem spec_MovesOk.mono_l : ∀ k, (∀ y0 y1 y2 y3, LeO (spec_MovesOk.j0 k y0 y1 y2 y3) (spec_MovesOk.j0 (k + 1) y0 y1 y2 y3)) ∧ (∀ y0 y1 y2 y3 y4, LeO (spec_MovesOk.l0 k y0 y1 y2 y3 y4) (spec_MovesOk.l0 (k + 1) y0 y1 y2 y3 y4)) ∧ (∀ y0 y1 y2 y3 y4 y5, LeO (spec_MovesOk.l1 k y0 y1 y2 y3 y4 y5) (spec_MovesOk.l1 (k + 1) y0 y1 y2 y3 y4 y5)) ∧ (∀ y0 y1 y2 y3 y4 y5 y6 y7 y8 y9 y10, LeO (spec_MovesOk.j3 k y0 y1 y2 y3 y4 y5 y6 y7 y8 y9 y10) (spec_MovesOk.j3 (k + 1) y0 y1 y2 y3 y4 y5 y6 y7 y8 y9 y10)) ∧ (∀ y0 y1 y2 y3 y4 y5 y6 y7 y8 y9 y10, LeO (spec_MovesOk.l2 k y0 y1 y2 y3 y4 y5 y6 y7 y8 y9 y10) (spec_MovesOk.l2 (k + 1) y0 y1 y2 y3 y4 y5 y6 y7 y8 y9 y10))
  | 0 => ⟨fun _ _ _ _ r h => by simp [spec_MovesOk.j0] at h, fun _ _ _ _ _ r h => by simp [spec_MovesOk.l0] at h, fun _ _ _ _ _ _ r h => by simp [spec_MovesOk.l1] at h, fun _ _ _ _ _ _ _ _ _ _ _ r h => by simp [spec_MovesOk.j3] at h, fun _ _ _ _ _ _ _ _ _ _ _ r h => by simp [spec_MovesOk.l2] at h⟩
  | k + 1 => by
    obtain ⟨ih0, ih1, ih2, ih3, ih4⟩ := spec_MovesOk.mono_l k
    refine ⟨?_, ?_, ?_, ?_, ?_⟩
    · intro y0 y1 y2 y3
      unfold spec_MovesOk.j0
      repeat' first
      | (with_reducible exact ih0 _ _ _ _)
      | (with_reducible exact ih1 _ _ _ _ _)
      | (with_reducible exact ih2 _ _ _ _ _ _)
      | (with_reducible exact ih3 _ _ _ _ _ _ _ _ _ _ _)
      | (with_reducible exact ih4 _ _ _ _ _ _ _ _ _ _ _)
      | (with_reducible exact LeO.refl _)
      | (with_reducible exact LeO.none _)
      | (with_reducible refine LeO.ite ?_ ?_)
      | (with_reducible refine LeO.bind ?_ (fun _ => ?_))
      | exact ih0 _ _ _ _
      | exact ih1 _ _ _ _ _
      | exact ih2 _ _ _ _ _ _
      | exact ih3 _ _ _ _ _ _ _ _ _ _ _
      | exact ih4 _ _ _ _ _ _ _ _ _ _ _
      | exact LeO.none _
      | refine LeO.ite ?_ ?_
      | refine LeO.bind ?_ (fun _ => ?_)
    · intro y0 y1 y2 y3 y4
      unfold spec_MovesOk.l0
      repeat' first
      | (with_reducible exact ih0 _ _ _ _)
      | (with_reducible exact ih1 _ _ _ _ _)
      | (with_reducible exact ih2 _ _ _ _ _ _)
      | (with_reducible exact ih3 _ _ _ _ _ _ _ _ _ _ _)
      | (with_reducible exact ih4 _ _ _ _ _ _ _ _ _ _ _)
      | (with_reducible exact LeO.refl _)
      | (with_reducible exact LeO.none _)
      | (with_reducible refine LeO.ite ?_ ?_)
      | (with_reducible refine LeO.bind ?_ (fun _ => ?_))
      | exact ih0 _ _ _ _
      | exact ih1 _ _ _ _ _
      | exact ih2 _ _ _ _ _ _
      | exact ih3 _ _ _ _ _ _ _ _ _ _ _
      | exact ih4 _ _ _ _ _ _ _ _ _ _ _
      | exact LeO.none _
      | refine LeO.ite ?_ ?_
      | refine LeO.bind ?_ (fun _ => ?_)
    · intro y0 y1 y2 y3 y4 y5
      unfold spec_MovesOk.l1
      repeat' first
      | (with_reducible exact ih0 _ _ _ _)
      | (with_reducible exact ih1 _ _ _ _ _)
      | (with_reducible exact ih2 _ _ _ _ _ _)
      | (with_reducible exact ih3 _ _ _ _ _ _ _ _ _ _ _)
      | (with_reducible exact ih4 _ _ _ _ _ _ _ _ _ _ _)
      | (with_reducible exact LeO.refl _)
      | (with_reducible exact LeO.none _)
      | (with_reducible refine LeO.ite ?_ ?_)
      | (with_reducible refine LeO.bind ?_ (fun _ => ?_))
      | exact ih0 _ _ _ _
      | exact ih1 _ _ _ _ _
      | exact ih2 _ _ _ _ _ _
      | exact ih3 _ _ _ _ _ _ _ _ _ _ _
      | exact ih4 _ _ _ _ _ _ _ _ _ _ _
      | exact LeO.none _
      | refine LeO.ite ?_ ?_
      | refine LeO.bind ?_ (fun _ => ?_)
    · intro y0 y1 y2 y3 y4 y5 y6 y7 y8 y9 y10
      unfold spec_MovesOk.j3
      repeat' first
      | (with_reducible exact ih0 _ _ _ _)
      | (with_reducible exact ih1 _ _ _ _ _)
      | (with_reducible exact ih2 _ _ _ _ _ _)
      | (with_reducible exact ih3 _ _ _ _ _ _ _ _ _ _ _)
      | (with_reducible exact ih4 _ _ _ _ _ _ _ _ _ _ _)
      | (with_reducible exact LeO.refl _)
      | (with_reducible exact LeO.none _)
      | (with_reducible refine LeO.ite ?_ ?_)
      | (with_reducible refine LeO.bind ?_ (fun _ => ?_))
      | exact ih0 _ _ _ _
      | exact ih1 _ _ _ _ _
      | exact ih2 _ _ _ _ _ _
      | exact ih3 _ _ _ _ _ _ _ _ _ _ _
      | exact ih4 _ _ _ _ _ _ _ _ _ _ _
      | exact LeO.none _
      | refine LeO.ite ?_ ?_
      | refine LeO.bind ?_ (fun _ => ?_)
    · intro y0 y1 y2 y3 y4 y5 y6 y7 y8 y9 y10
      unfold spec_MovesOk.l2
      repeat' first
      | (with_reducible exact ih0 _ _ _ _)
      | (with_reducible exact ih1 _ _ _ _ _)
      | (with_reducible exact ih2 _ _ _ _ _ _)
      | (with_reducible exact ih3 _ _ _ _ _ _ _ _ _ _ _)
      | (with_reducible exact ih4 _ _ _ _ _ _ _ _ _ _ _)
      | (with_reducible exact LeO.refl _)
      | (with_reducible exact LeO.none _)
      | (with_reducible refine LeO.ite ?_ ?_)
      | (with_reducible refine LeO.bind ?_ (fun _ => ?_))
      | exact ih0 _ _ _ _
      | exact ih1 _ _ _ _ _
      | exact ih2 _ _ _ _ _ _
      | exact ih3 _ _ _ _ _ _ _ _ _ _ _
      | exact ih4 _ _ _ _ _ _ _ _ _ _ _
      | exact LeO.none _
      | refine LeO.ite ?_ ?_
      | refine LeO.bind ?_ (fun _ => ?_)
theorem spec_MovesOk.mono : ∀ a0 a1 a2 k, LeO (spec_MovesOk.f k a0 a1 a2) (spec_MovesOk.f (k + 1) a0 a1 a2) := by
  intro a0 a1 a2 k
  obtain ⟨ih0, ih1, ih2, ih3, ih4⟩ := spec_MovesOk.mono_l k
  unfold spec_MovesOk.f
  repeat' first
      | (with_reducible exact ih0 _ _ _ _)
      | (with_reducible exact ih1 _ _ _ _ _)
      | (with_reducible exact ih2 _ _ _ _ _ _)
      | (with_reducible exact ih3 _ _ _ _ _ _ _ _ _ _ _)
      | (with_reducible exact ih4 _ _ _ _ _ _ _ _ _ _ _)
      | (with_reducible exact LeO.refl _)
      | (with_reducible exact LeO.none _)
      | (with_reducible refine LeO.ite ?_ ?_)
      | (with_reducible refine LeO.bind ?_ (fun _ => ?_))
      | exact ih0 _ _ _ _
      | exact ih1 _ _ _ _ _
      | exact ih2 _ _ _ _ _ _
      | exact ih3 _ _ _ _ _ _ _ _ _ _ _
      | exact ih4 _ _ _ _ _ _ _ _ _ _ _
      | exact LeO.none _
      | refine LeO.ite ?_ ?_
      | refine LeO.bind ?_ (fun _ => ?_)
set_option maxHeartbeats 8000000 in
set_option maxRecDepth 100000 in
theorem spec_MovesOk.calls (k : Nat) (A0 : Option Addr) (c0 : Nat) (l0 : List (List (S92))) (a1 : Int) (a2 : Int) (r : Bool) (w : World) (hr0 : Kd.C (Kd.slice 92 k92) w A0 l0.length l0) (hc0 : l0.length ≤ c0) (h : spec_MovesOk.f k l0 a1 a2 = some r) :
    Calls Try.prog 72 #[.slice A0 l0.length c0, .int .i64 a1, .int .i64 a2] w fun e w' => e = .returned (.bool r) ∧ Below w.heap.size w w' := by
  have hu92 := Try.underlying92
  have HR0 := Aside0.mk hr0
  have HC0 := Aside0.mk hc0
  clear hr0 hc0
  have HB := Aside0.mk (Below.refl w.heap.size w)
  have H : ((spec_l5In.f a1 1 64).bind fun t118 => (if t118 = true then ((spec_l5In.f a2 1 64).bind fun t119 => (if t119 = true then (spec_MovesOk.j0 k l0 a1 a2 (decide ((l0.length : Int) > 300))) else (spec_MovesOk.j0 k l0 a1 a2 true))) else (spec_MovesOk.j0 k l0 a1 a2 true))) = some r := h
  clear h
  have HC4 := Aside0.mk H
  clear H
  go_enter Try.func72, Try.ntmps72
  go_upto_region 1 with (fail)
  repeat (go_quiet (fail); go_upto_region 1 with (fail))
  go_cut [24] (fun v24 wc => ∃ (kq : Nat) (x24_3 : Bool), v24 = .bool x24_3 ∧ Aside0 (spec_MovesOk.j0 kq l0 a1 a2 x24_3 = some r) ∧ Aside0 (kq ≤ k) ∧ Aside0 (Below w.heap.size w wc))
  case first =>
    have H := HC4.out
    clear HC4
    replace H := Option.bind_eq_some_iff.mp H
    obtain ⟨t118, A50, H⟩ := H
    replace H : (if t118 = true then ((spec_l5In.f a2 1 64).bind fun t119 => (if t119 = true then (spec_MovesOk.j0 k l0 a1 a2 (decide ((l0.length : Int) > 300))) else (spec_MovesOk.j0 k l0 a1 a2 true))) else (spec_MovesOk.j0 k l0 a1 a2 true)) = some r := H
    have A5 := Aside0.mk A50
    clear A50
    by_cases c6 : t118 = true
    · subst c6
      have H1 : ((spec_l5In.f a2 1 64).bind fun t119 => (if t119 = true then (spec_MovesOk.j0 k l0 a1 a2 (decide ((l0.length : Int) > 300))) else (spec_MovesOk.j0 k l0 a1 a2 true))) = some r := by rw [if_pos rfl] at H; exact H
      clear H
      have H := H1
      clear H1
      replace H := Option.bind_eq_some_iff.mp H
      obtain ⟨t119, A70, H⟩ := H
      replace H : (if t119 = true then (spec_MovesOk.j0 k l0 a1 a2 (decide ((l0.length : Int) > 300))) else (spec_MovesOk.j0 k l0 a1 a2 true)) = some r := H
      have A7 := Aside0.mk A70
      clear A70
      by_cases c8 : t119 = true
      · subst c8
        have H1 : (spec_MovesOk.j0 k l0 a1 a2 (decide ((l0.length : Int) > 300))) = some r := by rw [if_pos rfl] at H; exact H
        clear H
        have H := H1
        clear H1
        have H' := Aside0.mk H
        clear H
        go_wp2_with (first | (go_at_call 61; (with_reducible refine (spec_l5In.calls a1 1 64 true _ A5.out).mono ?_); rintro e w' ⟨rfl, ⟨nd, rfl⟩⟩; (try first | exact ⟨rfl, _, World.drewN_drewN _ _ _⟩ | exact ⟨rfl, _, Eq.trans (World.drewN_drewN _ _ _) (congrArg (World.drewN _) (Nat.add_assoc _ _ _))⟩)) | (go_at_call 61; (with_reducible refine (spec_l5In.calls a2 1 64 true _ A7.out).mono ?_); rintro e w' ⟨rfl, ⟨nd, rfl⟩⟩; (try first | exact ⟨rfl, _, World.drewN_drewN _ _ _⟩ | exact ⟨rfl, _, Eq.trans (World.drewN_drewN _ _ _) (congrArg (World.drewN _) (Nat.add_assoc _ _ _))⟩)))
        repeat (go_quiet (first | (go_at_call 61; (with_reducible refine (spec_l5In.calls a1 1 64 true _ A5.out).mono ?_); rintro e w' ⟨rfl, ⟨nd, rfl⟩⟩; (try first | exact ⟨rfl, _, World.drewN_drewN _ _ _⟩ | exact ⟨rfl, _, Eq.trans (World.drewN_drewN _ _ _) (congrArg (World.drewN _) (Nat.add_assoc _ _ _))⟩)) | (go_at_call 61; (with_reducible refine (spec_l5In.calls a2 1 64 true _ A7.out).mono ?_); rintro e w' ⟨rfl, ⟨nd, rfl⟩⟩; (try first | exact ⟨rfl, _, World.drewN_drewN _ _ _⟩ | exact ⟨rfl, _, Eq.trans (World.drewN_drewN _ _ _) (congrArg (World.drewN _) (Nat.add_assoc _ _ _))⟩))); try go_wp2_with (first | (go_at_call 61; (with_reducible refine (spec_l5In.calls a1 1 64 true _ A5.out).mono ?_); rintro e w' ⟨rfl, ⟨nd, rfl⟩⟩; (try first | exact ⟨rfl, _, World.drewN_drewN _ _ _⟩ | exact ⟨rfl, _, Eq.trans (World.drewN_drewN _ _ _) (congrArg (World.drewN _) (Nat.add_assoc _ _ _))⟩)) | (go_at_call 61; (with_reducible refine (spec_l5In.calls a2 1 64 true _ A7.out).mono ?_); rintro e w' ⟨rfl, ⟨nd, rfl⟩⟩; (try first | exact ⟨rfl, _, World.drewN_drewN _ _ _⟩ | exact ⟨rfl, _, Eq.trans (World.drewN_drewN _ _ _) (congrArg (World.drewN _) (Nat.add_assoc _ _ _))⟩))))
        go_meet
        case rel => exact ⟨_, (decide ((l0.length : Int) > 300)), (by first | rfl | (simp; done) | (simp [*]; done)), H', ⟨by first | omega | exact Nat.le_refl _⟩, ⟨by repeat (first | (with_reducible first | exact HB.out | apply below_alloc | apply pw_below_drewN | apply below_drew1) | exact HB.out)⟩⟩
      · replace c8 := Bool.eq_false_iff.mpr c8
        subst c8
        have H1 : (spec_MovesOk.j0 k l0 a1 a2 true) = some r := by rw [if_neg (show ¬ (false = true) by decide)] at H; exact H
        clear H
        have H := H1
        clear H1
        have H' := Aside0.mk H
        clear H
        go_wp2_with (first | (go_at_call 61; (with_reducible refine (spec_l5In.calls a1 1 64 true _ A5.out).mono ?_); rintro e w' ⟨rfl, ⟨nd, rfl⟩⟩; (try first | exact ⟨rfl, _, World.drewN_drewN _ _ _⟩ | exact ⟨rfl, _, Eq.trans (World.drewN_drewN _ _ _) (congrArg (World.drewN _) (Nat.add_assoc _ _ _))⟩)) | (go_at_call 61; (with_reducible refine (spec_l5In.calls a2 1 64 false _ A7.out).mono ?_); rintro e w' ⟨rfl, ⟨nd, rfl⟩⟩; (try first | exact ⟨rfl, _, World.drewN_drewN _ _ _⟩ | exact ⟨rfl, _, Eq.trans (World.drewN_drewN _ _ _) (congrArg (World.drewN _) (Nat.add_assoc _ _ _))⟩)))
        repeat (go_quiet (first | (go_at_call 61; (with_reducible refine (spec_l5In.calls a1 1 64 true _ A5.out).mono ?_); rintro e w' ⟨rfl, ⟨nd, rfl⟩⟩; (try first | exact ⟨rfl, _, World.drewN_drewN _ _ _⟩ | exact ⟨rfl, _, Eq.trans (World.drewN_drewN _ _ _) (congrArg (World.drewN _) (Nat.add_assoc _ _ _))⟩)) | (go_at_call 61; (with_reducible refine (spec_l5In.calls a2 1 64 false _ A7.out).mono ?_); rintro e w' ⟨rfl, ⟨nd, rfl⟩⟩; (try first | exact ⟨rfl, _, World.drewN_drewN _ _ _⟩ | exact ⟨rfl, _, Eq.trans (World.drewN_drewN _ _ _) (congrArg (World.drewN _) (Nat.add_assoc _ _ _))⟩))); try go_wp2_with (first | (go_at_call 61; (with_reducible refine (spec_l5In.calls a1 1 64 true _ A5.out).mono ?_); rintro e w' ⟨rfl, ⟨nd, rfl⟩⟩; (try first | exact ⟨rfl, _, World.drewN_drewN _ _ _⟩ | exact ⟨rfl, _, Eq.trans (World.drewN_drewN _ _ _) (congrArg (World.drewN _) (Nat.add_assoc _ _ _))⟩)) | (go_at_call 61; (with_reducible refine (spec_l5In.calls a2 1 64 false _ A7.out).mono ?_); rintro e w' ⟨rfl, ⟨nd, rfl⟩⟩; (try first | exact ⟨rfl, _, World.drewN_drewN _ _ _⟩ | exact ⟨rfl, _, Eq.trans (World.drewN_drewN _ _ _) (congrArg (World.drewN _) (Nat.add_assoc _ _ _))⟩))))
        go_meet
        case rel => exact ⟨_, (true), (by first | rfl | (simp; done) | (simp [*]; done)), H', ⟨by first | omega | exact Nat.le_refl _⟩, ⟨by repeat (first | (with_reducible first | exact HB.out | apply below_alloc | apply pw_below_drewN | apply below_drew1) | exact HB.out)⟩⟩
    · replace c6 := Bool.eq_false_iff.mpr c6
      subst c6
      have H1 : (spec_MovesOk.j0 k l0 a1 a2 true) = some r := by rw [if_neg (show ¬ (false = true) by decide)] at H; exact H
      clear H
      have H := H1
      clear H1
      have H' := Aside0.mk H
      clear H
      go_wp2_with (first | (go_at_call 61; (with_reducible refine (spec_l5In.calls a1 1 64 false _ A5.out).mono ?_); rintro e w' ⟨rfl, ⟨nd, rfl⟩⟩; (try first | exact ⟨rfl, _, World.drewN_drewN _ _ _⟩ | exact ⟨rfl, _, Eq.trans (World.drewN_drewN _ _ _) (congrArg (World.drewN _) (Nat.add_assoc _ _ _))⟩)))
      repeat (go_quiet (first | (go_at_call 61; (with_reducible refine (spec_l5In.calls a1 1 64 false _ A5.out).mono ?_); rintro e w' ⟨rfl, ⟨nd, rfl⟩⟩; (try first | exact ⟨rfl, _, World.drewN_drewN _ _ _⟩ | exact ⟨rfl, _, Eq.trans (World.drewN_drewN _ _ _) (congrArg (World.drewN _) (Nat.add_assoc _ _ _))⟩))); try go_wp2_with (first | (go_at_call 61; (with_reducible refine (spec_l5In.calls a1 1 64 false _ A5.out).mono ?_); rintro e w' ⟨rfl, ⟨nd, rfl⟩⟩; (try first | exact ⟨rfl, _, World.drewN_drewN _ _ _⟩ | exact ⟨rfl, _, Eq.trans (World.drewN_drewN _ _ _) (congrArg (World.drewN _) (Nat.add_assoc _ _ _))⟩))))
      go_meet
      case rel => exact ⟨_, (true), (by first | rfl | (simp; done) | (simp [*]; done)), H', ⟨by first | omega | exact Nat.le_refl _⟩, ⟨by repeat (first | (with_reducible first | exact HB.out | apply below_alloc | apply pw_below_drewN | apply below_drew1) | exact HB.out)⟩⟩
  case rest =>
    clear HC4
    try clear p2
    try clear c6
    try clear c7
    try clear c8
    obtain ⟨kq, x24_3, rfl, HA, HJ3, HB⟩ := hcut
    cases kq with
    | zero => exact absurd HA.out (by simp [spec_MovesOk.j0])
    | succ kj3 =>
      have H := HA.out
      clear HA
      simp only [spec_MovesOk.j0] at H
      by_cases c9 : x24_3 = true
      · subst c9
        have H1 : (some false) = some r := by rw [if_pos rfl] at H; exact H
        clear H
        have H := H1
        clear H1
        obtain rfl := Option.some.inj H
        go_wp2
        repeat (go_quiet (fail); try go_wp2)
        go_ret
        exact ⟨by first | rfl | (simp [errW_none, errW_some] <;> rfl) | (simp [*, errW_none, errW_some] <;> rfl), by repeat (first | (with_reducible first | exact HB.out | apply below_alloc | apply pw_below_drewN | apply below_drew1) | exact HB.out)⟩
      · replace c9 := Bool.eq_false_iff.mpr c9
        subst c9
        have H1 : (spec_MovesOk.l0 kj3 l0 a1 a2 0 0) = some r := by rw [if_neg (show ¬ (false = true) by decide)] at H; exact H
        clear H
        have H := H1
        clear H1
        have H' := Aside0.mk H
        clear H
        go_wp2
        repeat (go_quiet (fail); try go_wp2)
        go_loopg [7, 8] kj3 (fun kq v7 v8 w' => ∃ (x7_2 : Int) (x8_2 : Int), v7 = .int .i64 x7_2 ∧ v8 = .int .i64 x8_2 ∧ Aside0 (spec_MovesOk.l0 kq l0 a1 a2 x7_2 x8_2 = some r) ∧ Aside0 (kq ≤ kj3) ∧ Aside0 (Below w.heap.size w w'))
        case atStart => exact ⟨(0), (0), (by first | rfl | (simp; done) | (simp [*]; done)), (by first | rfl | (simp; done) | (simp [*]; done)), H', ⟨Nat.le_refl _⟩, ⟨by repeat (first | (with_reducible first | exact HB.out | apply below_alloc | apply pw_below_drewN | apply below_drew1) | exact HB.out)⟩⟩
        case round =>
          clear H'
          try clear p2
          try clear c6
          try clear c7
          try clear c8
          try clear c9
          try clear p2
          obtain ⟨x7_2, x8_2, rfl, rfl, HA, HK2, HB⟩ := hrel
          cases gk with
          | zero => exact absurd HA.out (by simp [spec_MovesOk.l0])
          | succ k2 =>
            have H := HA.out
            clear HA
            simp only [spec_MovesOk.l0] at H
            by_cases c10 : x8_2 < (l0.length : Int)
            · rw [if_pos c10] at H
              have c10b0 : decide (x8_2 < (l0.length : Int)) = true := decide_eq_true c10
              clear c10
              by_cases c11 : 0 ≤ x8_2
              · rw [if_pos c11] at H
                have c11b0 : decide (0 ≤ x8_2) = true := decide_eq_true c11
                clear c11
                by_cases c12 : (wrap64 (x7_2 + ((rd_L5 l0 x8_2).length : Int))) > 5000
                · rw [if_pos c12] at H
                  have c12b0 : decide (5000 < (wrap64 (x7_2 + ((rd_L5 l0 x8_2).length : Int)))) = true := decide_eq_true c12
                  clear c12
                  obtain rfl := Option.some.inj H
                  have p120 : 0 ≤ (x8_2 : Int) := of_decide_eq_true (by first | (with_reducible assumption) | assumption)
                  have q120 : x8_2 < (l0.length : Int) := of_decide_eq_true (by first | (with_reducible assumption) | assumption)
                  obtain ⟨ad120, A120_0, c120_0, e120, hx120_0, hl120_0, hi120_0⟩ := at_L5 HR0.out x8_2 p120 q120
                  cases e120
                  replace hx120_0 := (HB.out.cell (World.block_lt_of_cell? w _ hx120_0)).trans hx120_0
                  have HR120_0 := Aside0.mk hi120_0
                  have HC120_0 := Aside0.mk hl120_0
                  clear hi120_0 hl120_0
                  replace p120 := eq_true p120
                  replace q120 := eq_true q120
                  go_wp2
                  repeat (go_quiet (fail); try go_wp2)
                  go_ret
                  exact ⟨by first | rfl | (simp [errW_none, errW_some] <;> rfl) | (simp [*, errW_none, errW_some] <;> rfl), by repeat (first | (with_reducible first | exact HB.out | apply below_alloc | apply pw_below_drewN | apply below_drew1) | exact HB.out)⟩
                · rw [if_neg c12] at H
                  have c12b0 : decide (5000 < (wrap64 (x7_2 + ((rd_L5 l0 x8_2).length : Int)))) = false := decide_eq_false c12
                  clear c12
                  have H' := Aside0.mk H
                  clear H
                  have p120 : 0 ≤ (x8_2 : Int) := of_decide_eq_true (by first | (with_reducible assumption) | assumption)
                  have q120 : x8_2 < (l0.length : Int) := of_decide_eq_true (by first | (with_reducible assumption) | assumption)
                  obtain ⟨ad120, A120_0, c120_0, e120, hx120_0, hl120_0, hi120_0⟩ := at_L5 HR0.out x8_2 p120 q120
                  cases e120
                  replace hx120_0 := (HB.out.cell (World.block_lt_of_cell? w _ hx120_0)).trans hx120_0
                  have HR120_0 := Aside0.mk hi120_0
                  have HC120_0 := Aside0.mk hl120_0
                  clear hi120_0 hl120_0
                  replace p120 := eq_true p120
                  replace q120 := eq_true q120
                  go_wp2
                  repeat (go_quiet (fail); try go_wp2)
                  go_loopg [9] k2 (fun kq v9 w' => ∃ (x9_3 : Int), v9 = .int .i64 x9_3 ∧ Aside0 (spec_MovesOk.l1 kq l0 a1 a2 (wrap64 (x7_2 + ((rd_L5 l0 x8_2).length : Int))) x8_2 x9_3 = some r) ∧ Aside0 (kq ≤ k2) ∧ Aside0 (Below w.heap.size w w'))
                  case atStart => exact ⟨(0), (by first | rfl | (simp; done) | (simp [*]; done)), H', ⟨Nat.le_refl _⟩, ⟨by repeat (first | (with_reducible first | exact HB.out | apply below_alloc | apply pw_below_drewN | apply below_drew1) | exact HB.out)⟩⟩
                  case round =>
                    clear H'
                    try clear c1
                    try clear p1
                    try clear q1
                    try clear hx1
                    try clear p2
                    try clear c6
                    try clear p6
                    try clear c7
                    try clear c8
                    try clear c9
                    try clear c10
                    try clear c10b0
                    try clear c11
                    try clear c11b0
                    try clear c12
                    try clear c12b0
                    try clear p12
                    try clear q12
                    try clear hx12
                    try clear hx120_0
                    try clear p120
                    try clear p2
                    try clear q120
                    obtain ⟨x9_3, rfl, HA, HK3, HB⟩ := hrel
                    cases gk with
                    | zero => exact absurd HA.out (by simp [spec_MovesOk.l1])
                    | succ k3 =>
                      have H := HA.out
                      clear HA
                      simp only [spec_MovesOk.l1] at H
                      by_cases c13 : 0 ≤ x8_2
                      · rw [if_pos c13] at H
                        have c13b0 : decide (0 ≤ x8_2) = true := decide_eq_true c13
                        clear c13
                        by_cases c14 : x8_2 < (l0.length : Int)
                        · rw [if_pos c14] at H
                          have c14b0 : decide (x8_2 < (l0.length : Int)) = true := decide_eq_true c14
                          clear c14
                          by_cases c15 : x9_3 < ((rd_L5 l0 x8_2).length : Int)
                          · rw [if_pos c15] at H
                            have c15b0 : decide (x9_3 < ((rd_L5 l0 x8_2).length : Int)) = true := decide_eq_true c15
                            clear c15
                            by_cases c16 : 0 ≤ x9_3
                            · rw [if_pos c16] at H
                              have c16b0 : decide (0 ≤ x9_3) = true := decide_eq_true c16
                              clear c16
                              have HC17 := Aside0.mk H
                              clear H
                              have p121 : 0 ≤ (x8_2 : Int) := of_decide_eq_true (by first | (with_reducible assumption) | assumption)
                              have q121 : x8_2 < (l0.length : Int) := of_decide_eq_true (by first | (with_reducible assumption) | assumption)
                              obtain ⟨ad121, A121_0, c121_0, e121, hx121_0, hl121_0, hi121_0⟩ := at_L5 HR0.out x8_2 p121 q121
                              obtain rfl : ad120 = ad121 := (by injection e121)
                              replace hx121_0 := (HB.out.cell (World.block_lt_of_cell? w _ hx121_0)).trans hx121_0
                              have HR121_0 := Aside0.mk hi121_0
                              have HC121_0 := Aside0.mk hl121_0
                              clear hi121_0 hl121_0
                              replace p121 := eq_true p121
                              replace q121 := eq_true q121
                              have p122 : 0 ≤ (x8_2 : Int) := of_decide_eq_true (by first | (with_reducible assumption) | assumption)
                              have q122 : x8_2 < (l0.length : Int) := of_decide_eq_true (by first | (with_reducible assumption) | assumption)
                              obtain ⟨ad122, A122_0, c122_0, e122, hx122_0, hl122_0, hi122_0⟩ := at_L5 HR0.out x8_2 p122 q122
                              obtain rfl : ad120 = ad122 := (by injection e122)
                              replace hx122_0 := (HB.out.cell (World.block_lt_of_cell? w _ hx122_0)).trans hx122_0
                              have HR122_0 := Aside0.mk hi122_0
                              have HC122_0 := Aside0.mk hl122_0
                              clear hi122_0 hl122_0
                              replace p122 := eq_true p122
                              replace q122 := eq_true q122
                              have ea_ := Option.some.inj (hx121_0.symm.trans hx122_0)
                              injection ea_ with ea_ en_ ec_
                              subst ea_
                              subst ec_
                              clear en_
                              have p123 : 0 ≤ (x9_3 : Int) := of_decide_eq_true (by first | (with_reducible assumption) | assumption)
                              have q123 : x9_3 < ((rd_L5 l0 x8_2).length : Int) := of_decide_eq_true (by first | (with_reducible assumption) | assumption)
                              obtain ⟨ad123, e123, hx123_0, hx123_1, hx123_2, hx123_3⟩ := at_T92 HR122_0.out x9_3 p123 q123
                              cases e123
                              replace hx123_0 := (HB.out.cell (World.block_lt_of_cell? w _ hx123_0)).trans hx123_0
                              replace hx123_1 := (HB.out.cell (World.block_lt_of_cell? w _ hx123_1)).trans hx123_1
                              replace hx123_2 := (HB.out.cell (World.block_lt_of_cell? w _ hx123_2)).trans hx123_2
                              replace hx123_3 := (HB.out.cell (World.block_lt_of_cell? w _ hx123_3)).trans hx123_3
                              replace p123 := eq_true p123
                              replace q123 := eq_true q123
                              go_upto_region 14 with (first | ((with_reducible refine gate_dst (N := 10) rfl ?_); (try (refine gate_guard (by rfl) ?_; dsimp only)); refine box_event ?hg (N := 10) ?hd (cs := #[.int .i64 0, .int .i64 0, .int .i64 0, .bool false]) (t := 92) ?hr ?_; (case hd => rfl); (case hg => rfl); (case hr => first | (go_simp; done) | (go_simp; rfl)); intro gb124 hg w18 hbox hb; have n0_ := Aside0.mk (below_step (by repeat (first | (with_reducible first | exact HB.out | apply below_alloc | apply pw_below_drewN | apply below_drew1) | exact HB.out)) hb); have n1_ := Aside0.mk (hbox); have n2_ := Aside0.mk ((by rw [hg]; exact (below_size (by repeat (first | (with_reducible first | exact HB.out | apply below_alloc | apply pw_below_drewN | apply below_drew1) | exact HB.out))) : w.heap.size ≤ gb124)); have n3_ := Aside0.mk ((by rw [hg]; exact (below_size (by repeat (first | (with_reducible first | exact HB.out | apply below_alloc | apply pw_below_drewN | apply below_drew1) | exact HB.out))) : w.heap.size ≤ gb124)); clear HB; have HB := n0_; have BK124 := n1_; have GW124 := n2_; have GE124 := n3_; clear n0_ n1_ n2_ n3_; clear hb hbox hg; have hcz19_0 : w18.cell? ⟨gb124, 0, none⟩ = some (.int .i64 0) := (blk_cell BK124.out 0).trans rfl; have hcz19_1 : w18.cell? ⟨gb124, 1, none⟩ = some (.int .i64 0) := (blk_cell BK124.out 1).trans rfl; have hcz19_2 : w18.cell? ⟨gb124, 2, none⟩ = some (.int .i64 0) := (blk_cell BK124.out 2).trans rfl; have hcz19_3 : w18.cell? ⟨gb124, 3, none⟩ = some (.bool false) := (blk_cell BK124.out 3).trans rfl; have hfz19_0 := blk_frozen BK124.out 0; have hfz19_1 := blk_frozen BK124.out 1; have hfz19_2 := blk_frozen BK124.out 2; have hfz19_3 := blk_frozen BK124.out 3))
                              repeat (go_quiet (first | ((with_reducible refine gate_dst (N := 10) rfl ?_); (try (refine gate_guard (by rfl) ?_; dsimp only)); refine box_event ?hg (N := 10) ?hd (cs := #[.int .i64 0, .int .i64 0, .int .i64 0, .bool false]) (t := 92) ?hr ?_; (case hd => rfl); (case hg => rfl); (case hr => first | (go_simp; done) | (go_simp; rfl)); intro gb124 hg w18 hbox hb; have n0_ := Aside0.mk (below_step (by repeat (first | (with_reducible first | exact HB.out | apply below_alloc | apply pw_below_drewN | apply below_drew1) | exact HB.out)) hb); have n1_ := Aside0.mk (hbox); have n2_ := Aside0.mk ((by rw [hg]; exact (below_size (by repeat (first | (with_reducible first | exact HB.out | apply below_alloc | apply pw_below_drewN | apply below_drew1) | exact HB.out))) : w.heap.size ≤ gb124)); have n3_ := Aside0.mk ((by rw [hg]; exact (below_size (by repeat (first | (with_reducible first | exact HB.out | apply below_alloc | apply pw_below_drewN | apply below_drew1) | exact HB.out))) : w.heap.size ≤ gb124)); clear HB; have HB := n0_; have BK124 := n1_; have GW124 := n2_; have GE124 := n3_; clear n0_ n1_ n2_ n3_; clear hb hbox hg; have hcz19_0 : w18.cell? ⟨gb124, 0, none⟩ = some (.int .i64 0) := (blk_cell BK124.out 0).trans rfl; have hcz19_1 : w18.cell? ⟨gb124, 1, none⟩ = some (.int .i64 0) := (blk_cell BK124.out 1).trans rfl; have hcz19_2 : w18.cell? ⟨gb124, 2, none⟩ = some (.int .i64 0) := (blk_cell BK124.out 2).trans rfl; have hcz19_3 : w18.cell? ⟨gb124, 3, none⟩ = some (.bool false) := (blk_cell BK124.out 3).trans rfl; have hfz19_0 := blk_frozen BK124.out 0; have hfz19_1 := blk_frozen BK124.out 1; have hfz19_2 := blk_frozen BK124.out 2; have hfz19_3 := blk_frozen BK124.out 3)); go_upto_region 14 with (first | ((with_reducible refine gate_dst (N := 10) rfl ?_); (try (refine gate_guard (by rfl) ?_; dsimp only)); refine box_event ?hg (N := 10) ?hd (cs := #[.int .i64 0, .int .i64 0, .int .i64 0, .bool false]) (t := 92) ?hr ?_; (case hd => rfl); (case hg => rfl); (case hr => first | (go_simp; done) | (go_simp; rfl)); intro gb124 hg w18 hbox hb; have n0_ := Aside0.mk (below_step (by repeat (first | (with_reducible first | exact HB.out | apply below_alloc | apply pw_below_drewN | apply below_drew1) | exact HB.out)) hb); have n1_ := Aside0.mk (hbox); have n2_ := Aside0.mk ((by rw [hg]; exact (below_size (by repeat (first | (with_reducible first | exact HB.out | apply below_alloc | apply pw_below_drewN | apply below_drew1) | exact HB.out))) : w.heap.size ≤ gb124)); have n3_ := Aside0.mk ((by rw [hg]; exact (below_size (by repeat (first | (with_reducible first | exact HB.out | apply below_alloc | apply pw_below_drewN | apply below_drew1) | exact HB.out))) : w.heap.size ≤ gb124)); clear HB; have HB := n0_; have BK124 := n1_; have GW124 := n2_; have GE124 := n3_; clear n0_ n1_ n2_ n3_; clear hb hbox hg; have hcz19_0 : w18.cell? ⟨gb124, 0, none⟩ = some (.int .i64 0) := (blk_cell BK124.out 0).trans rfl; have hcz19_1 : w18.cell? ⟨gb124, 1, none⟩ = some (.int .i64 0) := (blk_cell BK124.out 1).trans rfl; have hcz19_2 : w18.cell? ⟨gb124, 2, none⟩ = some (.int .i64 0) := (blk_cell BK124.out 2).trans rfl; have hcz19_3 : w18.cell? ⟨gb124, 3, none⟩ = some (.bool false) := (blk_cell BK124.out 3).trans rfl; have hfz19_0 := blk_frozen BK124.out 0; have hfz19_1 := blk_frozen BK124.out 1; have hfz19_2 := blk_frozen BK124.out 2; have hfz19_3 := blk_frozen BK124.out 3)))
                              (try simp only [Act.put, List.setIfInBounds_toArray, List.set_cons_zero, List.set_cons_succ])
                              go_cut [84] (fun v84 wc => ∃ (kq : Nat) (x84_16 : Bool), v84 = .bool x84_16 ∧ Aside0 (spec_MovesOk.j3 kq l0 a1 a2 (wrap64 (x7_2 + ((rd_L5 l0 x8_2).length : Int))) x8_2 x9_3 x84_16 ((rd_T92 (rd_L5 l0 x8_2) x9_3).f0) ((rd_T92 (rd_L5 l0 x8_2) x9_3).f1) ((rd_T92 (rd_L5 l0 x8_2) x9_3).f2) ((rd_T92 (rd_L5 l0 x8_2) x9_3).f3) = some r) ∧ Aside0 (kq ≤ k3) ∧ Aside0 (wc.heap[gb124]? = some (.cells #[.int .i64 ((rd_T92 (rd_L5 l0 x8_2) x9_3).f0), .int .i64 ((rd_T92 (rd_L5 l0 x8_2) x9_3).f1), .int .i64 ((rd_T92 (rd_L5 l0 x8_2) x9_3).f2), .bool ((rd_T92 (rd_L5 l0 x8_2) x9_3).f3)] 92 (0, 0))) ∧ Aside0 (Below w.heap.size w wc))
                              case first =>
                                have H := HC17.out
                                clear HC17
                                replace H := Option.bind_eq_some_iff.mp H
                                obtain ⟨t125, A200, H⟩ := H
                                replace H : (if t125 = true then ((spec_l5In.f ((rd_T92 (rd_L5 l0 x8_2) x9_3).f1) 0 (wrap64 (a1 - 1))).bind fun t126 => (if t126 = true then (if ((rd_T92 (rd_L5 l0 x8_2) x9_3).f0) = ((rd_T92 (rd_L5 l0 x8_2) x9_3).f1) then (spec_MovesOk.j3 k3 l0 a1 a2 (wrap64 (x7_2 + ((rd_L5 l0 x8_2).length : Int))) x8_2 x9_3 true ((rd_T92 (rd_L5 l0 x8_2) x9_3).f0) ((rd_T92 (rd_L5 l0 x8_2) x9_3).f1) ((rd_T92 (rd_L5 l0 x8_2) x9_3).f2) ((rd_T92 (rd_L5 l0 x8_2) x9_3).f3)) else ((spec_l5In.f ((rd_T92 (rd_L5 l0 x8_2) x9_3).f2) 0 (wrap64 (a2 - 1))).bind fun t127 => (spec_MovesOk.j3 k3 l0 a1 a2 (wrap64 (x7_2 + ((rd_L5 l0 x8_2).length : Int))) x8_2 x9_3 (!t127) ((rd_T92 (rd_L5 l0 x8_2) x9_3).f0) ((rd_T92 (rd_L5 l0 x8_2) x9_3).f1) ((rd_T92 (rd_L5 l0 x8_2) x9_3).f2) ((rd_T92 (rd_L5 l0 x8_2) x9_3).f3)))) else (spec_MovesOk.j3 k3 l0 a1 a2 (wrap64 (x7_2 + ((rd_L5 l0 x8_2).length : Int))) x8_2 x9_3 true ((rd_T92 (rd_L5 l0 x8_2) x9_3).f0) ((rd_T92 (rd_L5 l0 x8_2) x9_3).f1) ((rd_T92 (rd_L5 l0 x8_2) x9_3).f2) ((rd_T92 (rd_L5 l0 x8_2) x9_3).f3)))) else (spec_MovesOk.j3 k3 l0 a1 a2 (wrap64 (x7_2 + ((rd_L5 l0 x8_2).length : Int))) x8_2 x9_3 true ((rd_T92 (rd_L5 l0 x8_2) x9_3).f0) ((rd_T92 (rd_L5 l0 x8_2) x9_3).f1) ((rd_T92 (rd_L5 l0 x8_2) x9_3).f2) ((rd_T92 (rd_L5 l0 x8_2) x9_3).f3))) = some r := H
                                have A20 := Aside0.mk A200
                                clear A200
                                by_cases c21 : t125 = true
                                · subst c21
                                  have H1 : ((spec_l5In.f ((rd_T92 (rd_L5 l0 x8_2) x9_3).f1) 0 (wrap64 (a1 - 1))).bind fun t126 => (if t126 = true then (if ((rd_T92 (rd_L5 l0 x8_2) x9_3).f0) = ((rd_T92 (rd_L5 l0 x8_2) x9_3).f1) then (spec_MovesOk.j3 k3 l0 a1 a2 (wrap64 (x7_2 + ((rd_L5 l0 x8_2).length : Int))) x8_2 x9_3 true ((rd_T92 (rd_L5 l0 x8_2) x9_3).f0) ((rd_T92 (rd_L5 l0 x8_2) x9_3).f1) ((rd_T92 (rd_L5 l0 x8_2) x9_3).f2) ((rd_T92 (rd_L5 l0 x8_2) x9_3).f3)) else ((spec_l5In.f ((rd_T92 (rd_L5 l0 x8_2) x9_3).f2) 0 (wrap64 (a2 - 1))).bind fun t127 => (spec_MovesOk.j3 k3 l0 a1 a2 (wrap64 (x7_2 + ((rd_L5 l0 x8_2).length : Int))) x8_2 x9_3 (!t127) ((rd_T92 (rd_L5 l0 x8_2) x9_3).f0) ((rd_T92 (rd_L5 l0 x8_2) x9_3).f1) ((rd_T92 (rd_L5 l0 x8_2) x9_3).f2) ((rd_T92 (rd_L5 l0 x8_2) x9_3).f3)))) else (spec_MovesOk.j3 k3 l0 a1 a2 (wrap64 (x7_2 + ((rd_L5 l0 x8_2).length : Int))) x8_2 x9_3 true ((rd_T92 (rd_L5 l0 x8_2) x9_3).f0) ((rd_T92 (rd_L5 l0 x8_2) x9_3).f1) ((rd_T92 (rd_L5 l0 x8_2) x9_3).f2) ((rd_T92 (rd_L5 l0 x8_2) x9_3).f3)))) = some r := by rw [if_pos rfl] at H; exact H
                                  clear H
                                  have H := H1
                                  clear H1
                                  replace H := Option.bind_eq_some_iff.mp H
                                  obtain ⟨t126, A220, H⟩ := H
                                  replace H : (if t126 = true then (if ((rd_T92 (rd_L5 l0 x8_2) x9_3).f0) = ((rd_T92 (rd_L5 l0 x8_2) x9_3).f1) then (spec_MovesOk.j3 k3 l0 a1 a2 (wrap64 (x7_2 + ((rd_L5 l0 x8_2).length : Int))) x8_2 x9_3 true ((rd_T92 (rd_L5 l0 x8_2) x9_3).f0) ((rd_T92 (rd_L5 l0 x8_2) x9_3).f1) ((rd_T92 (rd_L5 l0 x8_2) x9_3).f2) ((rd_T92 (rd_L5 l0 x8_2) x9_3).f3)) else ((spec_l5In.f ((rd_T92 (rd_L5 l0 x8_2) x9_3).f2) 0 (wrap64 (a2 - 1))).bind fun t127 => (spec_MovesOk.j3 k3 l0 a1 a2 (wrap64 (x7_2 + ((rd_L5 l0 x8_2).length : Int))) x8_2 x9_3 (!t127) ((rd_T92 (rd_L5 l0 x8_2) x9_3).f0) ((rd_T92 (rd_L5 l0 x8_2) x9_3).f1) ((rd_T92 (rd_L5 l0 x8_2) x9_3).f2) ((rd_T92 (rd_L5 l0 x8_2) x9_3).f3)))) else (spec_MovesOk.j3 k3 l0 a1 a2 (wrap64 (x7_2 + ((rd_L5 l0 x8_2).length : Int))) x8_2 x9_3 true ((rd_T92 (rd_L5 l0 x8_2) x9_3).f0) ((rd_T92 (rd_L5 l0 x8_2) x9_3).f1) ((rd_T92 (rd_L5 l0 x8_2) x9_3).f2) ((rd_T92 (rd_L5 l0 x8_2) x9_3).f3))) = some r := H
                                  have A22 := Aside0.mk A220
                                  clear A220
                                  by_cases c23 : t126 = true
                                  · subst c23
                                    have H1 : (if ((rd_T92 (rd_L5 l0 x8_2) x9_3).f0) = ((rd_T92 (rd_L5 l0 x8_2) x9_3).f1) then (spec_MovesOk.j3 k3 l0 a1 a2 (wrap64 (x7_2 + ((rd_L5 l0 x8_2).length : Int))) x8_2 x9_3 true ((rd_T92 (rd_L5 l0 x8_2) x9_3).f0) ((rd_T92 (rd_L5 l0 x8_2) x9_3).f1) ((rd_T92 (rd_L5 l0 x8_2) x9_3).f2) ((rd_T92 (rd_L5 l0 x8_2) x9_3).f3)) else ((spec_l5In.f ((rd_T92 (rd_L5 l0 x8_2) x9_3).f2) 0 (wrap64 (a2 - 1))).bind fun t127 => (spec_MovesOk.j3 k3 l0 a1 a2 (wrap64 (x7_2 + ((rd_L5 l0 x8_2).length : Int))) x8_2 x9_3 (!t127) ((rd_T92 (rd_L5 l0 x8_2) x9_3).f0) ((rd_T92 (rd_L5 l0 x8_2) x9_3).f1) ((rd_T92 (rd_L5 l0 x8_2) x9_3).f2) ((rd_T92 (rd_L5 l0 x8_2) x9_3).f3)))) = some r := by rw [if_pos rfl] at H; exact H
                                    clear H
                                    have H := H1
                                    clear H1
                                    by_cases c24 : ((rd_T92 (rd_L5 l0 x8_2) x9_3).f0) = ((rd_T92 (rd_L5 l0 x8_2) x9_3).f1)
                                    · rw [if_pos c24] at H
                                      have c24b0 : (((rd_T92 (rd_L5 l0 x8_2) x9_3).f0) == ((rd_T92 (rd_L5 l0 x8_2) x9_3).f1)) = true := beq_iff_eq.mpr c24
                                      have c24b1 : (((rd_T92 (rd_L5 l0 x8_2) x9_3).f0) != ((rd_T92 (rd_L5 l0 x8_2) x9_3).f1)) = false := bne_eq_false_iff_eq.mpr c24
                                      clear c24
                                      (first | rw [c24b0] | (simp only [i64_w, i32_w]; rw [c24b0]) | skip)
                                      have H' := Aside0.mk H
                                      clear H
                                      have hcz25_0 : w18.cell? ⟨gb124, 0, none⟩ = some (.int .i64 0) := (blk_cell BK124.out 0).trans rfl
                                      have hcz25_1 : w18.cell? ⟨gb124, 1, none⟩ = some (.int .i64 0) := (blk_cell BK124.out 1).trans rfl
                                      have hcz25_2 : w18.cell? ⟨gb124, 2, none⟩ = some (.int .i64 0) := (blk_cell BK124.out 2).trans rfl
                                      have hcz25_3 : w18.cell? ⟨gb124, 3, none⟩ = some (.bool false) := (blk_cell BK124.out 3).trans rfl
                                      have hfz25_0 := blk_frozen BK124.out 0
                                      have hfz25_1 := blk_frozen BK124.out 1
                                      have hfz25_2 := blk_frozen BK124.out 2
                                      have hfz25_3 := blk_frozen BK124.out 3
                                      go_wp2_with (first | (go_at_call 61; (with_reducible refine (spec_l5In.calls ((rd_T92 (rd_L5 l0 x8_2) x9_3).f0) 0 (wrap64 (a1 - 1)) true _ A20.out).mono ?_); rintro e w' ⟨rfl, ⟨nd, rfl⟩⟩; (try first | exact ⟨rfl, _, World.drewN_drewN _ _ _⟩ | exact ⟨rfl, _, Eq.trans (World.drewN_drewN _ _ _) (congrArg (World.drewN _) (Nat.add_assoc _ _ _))⟩)) | (go_at_call 61; (with_reducible refine (spec_l5In.calls ((rd_T92 (rd_L5 l0 x8_2) x9_3).f1) 0 (wrap64 (a1 - 1)) true _ A22.out).mono ?_); rintro e w' ⟨rfl, ⟨nd, rfl⟩⟩; (try first | exact ⟨rfl, _, World.drewN_drewN _ _ _⟩ | exact ⟨rfl, _, Eq.trans (World.drewN_drewN _ _ _) (congrArg (World.drewN _) (Nat.add_assoc _ _ _))⟩)))
                                      repeat (go_quiet (first | (go_at_call 61; (with_reducible refine (spec_l5In.calls ((rd_T92 (rd_L5 l0 x8_2) x9_3).f0) 0 (wrap64 (a1 - 1)) true _ A20.out).mono ?_); rintro e w' ⟨rfl, ⟨nd, rfl⟩⟩; (try first | exact ⟨rfl, _, World.drewN_drewN _ _ _⟩ | exact ⟨rfl, _, Eq.trans (World.drewN_drewN _ _ _) (congrArg (World.drewN _) (Nat.add_assoc _ _ _))⟩)) | (go_at_call 61; (with_reducible refine (spec_l5In.calls ((rd_T92 (rd_L5 l0 x8_2) x9_3).f1) 0 (wrap64 (a1 - 1)) true _ A22.out).mono ?_); rintro e w' ⟨rfl, ⟨nd, rfl⟩⟩; (try first | exact ⟨rfl, _, World.drewN_drewN _ _ _⟩ | exact ⟨rfl, _, Eq.trans (World.drewN_drewN _ _ _) (congrArg (World.drewN _) (Nat.add_assoc _ _ _))⟩))); try go_wp2_with (first | (go_at_call 61; (with_reducible refine (spec_l5In.calls ((rd_T92 (rd_L5 l0 x8_2) x9_3).f0) 0 (wrap64 (a1 - 1)) true _ A20.out).mono ?_); rintro e w' ⟨rfl, ⟨nd, rfl⟩⟩; (try first | exact ⟨rfl, _, World.drewN_drewN _ _ _⟩ | exact ⟨rfl, _, Eq.trans (World.drewN_drewN _ _ _) (congrArg (World.drewN _) (Nat.add_assoc _ _ _))⟩)) | (go_at_call 61; (with_reducible refine (spec_l5In.calls ((rd_T92 (rd_L5 l0 x8_2) x9_3).f1) 0 (wrap64 (a1 - 1)) true _ A22.out).mono ?_); rintro e w' ⟨rfl, ⟨nd, rfl⟩⟩; (try first | exact ⟨rfl, _, World.drewN_drewN _ _ _⟩ | exact ⟨rfl, _, Eq.trans (World.drewN_drewN _ _ _) (congrArg (World.drewN _) (Nat.add_assoc _ _ _))⟩))))
                                      go_meet
                                      case rel => exact ⟨_, (true), (by first | rfl | (simp; done) | (simp [*]; done)), H', ⟨by have := HJ3.out; have := HK2.out; have := HK3.out; first | omega | exact Nat.le_refl _⟩, ⟨by (with_reducible repeat (first | refine blk_drewN ?_ _ | refine blk_drew ?_ | refine blk_alloc ?_ _)); refine blk_put (cs := #[.int .i64 ((rd_T92 (rd_L5 l0 x8_2) x9_3).f0), .int .i64 ((rd_T92 (rd_L5 l0 x8_2) x9_3).f1), .int .i64 ((rd_T92 (rd_L5 l0 x8_2) x9_3).f2), .bool false]) ?_ 3 _ rfl; (with_reducible repeat (first | refine blk_drewN ?_ _ | refine blk_drew ?_ | refine blk_alloc ?_ _)); refine blk_put (cs := #[.int .i64 ((rd_T92 (rd_L5 l0 x8_2) x9_3).f0), .int .i64 ((rd_T92 (rd_L5 l0 x8_2) x9_3).f1), .int .i64 0, .bool false]) ?_ 2 _ rfl; (with_reducible repeat (first | refine blk_drewN ?_ _ | refine blk_drew ?_ | refine blk_alloc ?_ _)); refine blk_put (cs := #[.int .i64 ((rd_T92 (rd_L5 l0 x8_2) x9_3).f0), .int .i64 0, .int .i64 0, .bool false]) ?_ 1 _ rfl; (with_reducible repeat (first | refine blk_drewN ?_ _ | refine blk_drew ?_ | refine blk_alloc ?_ _)); refine blk_put (cs := #[.int .i64 0, .int .i64 0, .int .i64 0, .bool false]) ?_ 0 _ rfl; (with_reducible repeat (first | refine blk_drewN ?_ _ | refine blk_drew ?_ | refine blk_alloc ?_ _)); exact BK124.out⟩, ⟨by repeat (first | (with_reducible first | exact HB.out | apply below_alloc | apply pw_below_drewN | apply below_drew1 | refine below_set ?_ GE124.out) | exact HB.out)⟩⟩
                                    · rw [if_neg c24] at H
                                      have c24b0 : (((rd_T92 (rd_L5 l0 x8_2) x9_3).f0) == ((rd_T92 (rd_L5 l0 x8_2) x9_3).f1)) = false := beq_eq_false_iff_ne.mpr c24
                                      have c24b1 : (((rd_T92 (rd_L5 l0 x8_2) x9_3).f0) != ((rd_T92 (rd_L5 l0 x8_2) x9_3).f1)) = true := bne_iff_ne.mpr c24
                                      (first | rw [c24b0] | (simp only [i64_w, i32_w]; rw [c24b0]) | skip)
                                      replace H := Option.bind_eq_some_iff.mp H
                                      obtain ⟨t127, A260, H⟩ := H
                                      replace H : (spec_MovesOk.j3 k3 l0 a1 a2 (wrap64 (x7_2 + ((rd_L5 l0 x8_2).length : Int))) x8_2 x9_3 (!t127) ((rd_T92 (rd_L5 l0 x8_2) x9_3).f0) ((rd_T92 (rd_L5 l0 x8_2) x9_3).f1) ((rd_T92 (rd_L5 l0 x8_2) x9_3).f2) ((rd_T92 (rd_L5 l0 x8_2) x9_3).f3)) = some r := H
                                      have A26 := Aside0.mk A260
                                      clear A260
                                      have H' := Aside0.mk H
                                      clear H
                                      have hcz27_0 : w18.cell? ⟨gb124, 0, none⟩ = some (.int .i64 0) := (blk_cell BK124.out 0).trans rfl
                                      have hcz27_1 : w18.cell? ⟨gb124, 1, none⟩ = some (.int .i64 0) := (blk_cell BK124.out 1).trans rfl
                                      have hcz27_2 : w18.cell? ⟨gb124, 2, none⟩ = some (.int .i64 0) := (blk_cell BK124.out 2).trans rfl
                                      have hcz27_3 : w18.cell? ⟨gb124, 3, none⟩ = some (.bool false) := (blk_cell BK124.out 3).trans rfl
                                      have hfz27_0 := blk_frozen BK124.out 0
                                      have hfz27_1 := blk_frozen BK124.out 1
                                      have hfz27_2 := blk_frozen BK124.out 2
                                      have hfz27_3 := blk_frozen BK124.out 3
                                      go_wp2_with (first | (go_at_call 61; (with_reducible refine (spec_l5In.calls ((rd_T92 (rd_L5 l0 x8_2) x9_3).f0) 0 (wrap64 (a1 - 1)) true _ A20.out).mono ?_); rintro e w' ⟨rfl, ⟨nd, rfl⟩⟩; (try first | exact ⟨rfl, _, World.drewN_drewN _ _ _⟩ | exact ⟨rfl, _, Eq.trans (World.drewN_drewN _ _ _) (congrArg (World.drewN _) (Nat.add_assoc _ _ _))⟩)) | (go_at_call 61; (with_reducible refine (spec_l5In.calls ((rd_T92 (rd_L5 l0 x8_2) x9_3).f1) 0 (wrap64 (a1 - 1)) true _ A22.out).mono ?_); rintro e w' ⟨rfl, ⟨nd, rfl⟩⟩; (try first | exact ⟨rfl, _, World.drewN_drewN _ _ _⟩ | exact ⟨rfl, _, Eq.trans (World.drewN_drewN _ _ _) (congrArg (World.drewN _) (Nat.add_assoc _ _ _))⟩)) | (go_at_call 61; (with_reducible refine (spec_l5In.calls ((rd_T92 (rd_L5 l0 x8_2) x9_3).f2) 0 (wrap64 (a2 - 1)) t127 _ A26.out).mono ?_); rintro e w' ⟨rfl, ⟨nd, rfl⟩⟩; (try first | exact ⟨rfl, _, World.drewN_drewN _ _ _⟩ | exact ⟨rfl, _, Eq.trans (World.drewN_drewN _ _ _) (congrArg (World.drewN _) (Nat.add_assoc _ _ _))⟩)))
                                      repeat (go_quiet (first | (go_at_call 61; (with_reducible refine (spec_l5In.calls ((rd_T92 (rd_L5 l0 x8_2) x9_3).f0) 0 (wrap64 (a1 - 1)) true _ A20.out).mono ?_); rintro e w' ⟨rfl, ⟨nd, rfl⟩⟩; (try first | exact ⟨rfl, _, World.drewN_drewN _ _ _⟩ | exact ⟨rfl, _, Eq.trans (World.drewN_drewN _ _ _) (congrArg (World.drewN _) (Nat.add_assoc _ _ _))⟩)) | (go_at_call 61; (with_reducible refine (spec_l5In.calls ((rd_T92 (rd_L5 l0 x8_2) x9_3).f1) 0 (wrap64 (a1 - 1)) true _ A22.out).mono ?_); rintro e w' ⟨rfl, ⟨nd, rfl⟩⟩; (try first | exact ⟨rfl, _, World.drewN_drewN _ _ _⟩ | exact ⟨rfl, _, Eq.trans (World.drewN_drewN _ _ _) (congrArg (World.drewN _) (Nat.add_assoc _ _ _))⟩)) | (go_at_call 61; (with_reducible refine (spec_l5In.calls ((rd_T92 (rd_L5 l0 x8_2) x9_3).f2) 0 (wrap64 (a2 - 1)) t127 _ A26.out).mono ?_); rintro e w' ⟨rfl, ⟨nd, rfl⟩⟩; (try first | exact ⟨rfl, _, World.drewN_drewN _ _ _⟩ | exact ⟨rfl, _, Eq.trans (World.drewN_drewN _ _ _) (congrArg (World.drewN _) (Nat.add_assoc _ _ _))⟩))); try go_wp2_with (first | (go_at_call 61; (with_reducible refine (spec_l5In.calls ((rd_T92 (rd_L5 l0 x8_2) x9_3).f0) 0 (wrap64 (a1 - 1)) true _ A20.out).mono ?_); rintro e w' ⟨rfl, ⟨nd, rfl⟩⟩; (try first | exact ⟨rfl, _, World.drewN_drewN _ _ _⟩ | exact ⟨rfl, _, Eq.trans (World.drewN_drewN _ _ _) (congrArg (World.drewN _) (Nat.add_assoc _ _ _))⟩)) | (go_at_call 61; (with_reducible refine (spec_l5In.calls ((rd_T92 (rd_L5 l0 x8_2) x9_3).f1) 0 (wrap64 (a1 - 1)) true _ A22.out).mono ?_); rintro e w' ⟨rfl, ⟨nd, rfl⟩⟩; (try first | exact ⟨rfl, _, World.drewN_drewN _ _ _⟩ | exact ⟨rfl, _, Eq.trans (World.drewN_drewN _ _ _) (congrArg (World.drewN _) (Nat.add_assoc _ _ _))⟩)) | (go_at_call 61; (with_reducible refine (spec_l5In.calls ((rd_T92 (rd_L5 l0 x8_2) x9_3).f2) 0 (wrap64 (a2 - 1)) t127 _ A26.out).mono ?_); rintro e w' ⟨rfl, ⟨nd, rfl⟩⟩; (try first | exact ⟨rfl, _, World.drewN_drewN _ _ _⟩ | exact ⟨rfl, _, Eq.trans (World.drewN_drewN _ _ _) (congrArg (World.drewN _) (Nat.add_assoc _ _ _))⟩))))
                                      go_meet
                                      case rel => exact ⟨_, (!t127), (by first | rfl | (simp; done) | (simp [*]; done)), H', ⟨by have := HJ3.out; have := HK2.out; have := HK3.out; first | omega | exact Nat.le_refl _⟩, ⟨by (with_reducible repeat (first | refine blk_drewN ?_ _ | refine blk_drew ?_ | refine blk_alloc ?_ _)); refine blk_put (cs := #[.int .i64 ((rd_T92 (rd_L5 l0 x8_2) x9_3).f0), .int .i64 ((rd_T92 (rd_L5 l0 x8_2) x9_3).f1), .int .i64 ((rd_T92 (rd_L5 l0 x8_2) x9_3).f2), .bool false]) ?_ 3 _ rfl; (with_reducible repeat (first | refine blk_drewN ?_ _ | refine blk_drew ?_ | refine blk_alloc ?_ _)); refine blk_put (cs := #[.int .i64 ((rd_T92 (rd_L5 l0 x8_2) x9_3).f0), .int .i64 ((rd_T92 (rd_L5 l0 x8_2) x9_3).f1), .int .i64 0, .bool false]) ?_ 2 _ rfl; (with_reducible repeat (first | refine blk_drewN ?_ _ | refine blk_drew ?_ | refine blk_alloc ?_ _)); refine blk_put (cs := #[.int .i64 ((rd_T92 (rd_L5 l0 x8_2) x9_3).f0), .int .i64 0, .int .i64 0, .bool false]) ?_ 1 _ rfl; (with_reducible repeat (first | refine blk_drewN ?_ _ | refine blk_drew ?_ | refine blk_alloc ?_ _)); refine blk_put (cs := #[.int .i64 0, .int .i64 0, .int .i64 0, .bool false]) ?_ 0 _ rfl; (with_reducible repeat (first | refine blk_drewN ?_ _ | refine blk_drew ?_ | refine blk_alloc ?_ _)); exact BK124.out⟩, ⟨by repeat (first | (with_reducible first | exact HB.out | apply below_alloc | apply pw_below_drewN | apply below_drew1 | refine below_set ?_ GE124.out) | exact HB.out)⟩⟩
                                  · replace c23 := Bool.eq_false_iff.mpr c23
                                    subst c23
                                    have H1 : (spec_MovesOk.j3 k3 l0 a1 a2 (wrap64 (x7_2 + ((rd_L5 l0 x8_2).length : Int))) x8_2 x9_3 true ((rd_T92 (rd_L5 l0 x8_2) x9_3).f0) ((rd_T92 (rd_L5 l0 x8_2) x9_3).f1) ((rd_T92 (rd_L5 l0 x8_2) x9_3).f2) ((rd_T92 (rd_L5 l0 x8_2) x9_3).f3)) = some r := by rw [if_neg (show ¬ (false = true) by decide)] at H; exact H
                                    clear H
                                    have H := H1
                                    clear H1
                                    have H' := Aside0.mk H
                                    clear H
                                    have hcz28_0 : w18.cell? ⟨gb124, 0, none⟩ = some (.int .i64 0) := (blk_cell BK124.out 0).trans rfl
                                    have hcz28_1 : w18.cell? ⟨gb124, 1, none⟩ = some (.int .i64 0) := (blk_cell BK124.out 1).trans rfl
                                    have hcz28_2 : w18.cell? ⟨gb124, 2, none⟩ = some (.int .i64 0) := (blk_cell BK124.out 2).trans rfl
                                    have hcz28_3 : w18.cell? ⟨gb124, 3, none⟩ = some (.bool false) := (blk_cell BK124.out 3).trans rfl
                                    have hfz28_0 := blk_frozen BK124.out 0
                                    have hfz28_1 := blk_frozen BK124.out 1
                                    have hfz28_2 := blk_frozen BK124.out 2
                                    have hfz28_3 := blk_frozen BK124.out 3
                                    go_wp2_with (first | (go_at_call 61; (with_reducible refine (spec_l5In.calls ((rd_T92 (rd_L5 l0 x8_2) x9_3).f0) 0 (wrap64 (a1 - 1)) true _ A20.out).mono ?_); rintro e w' ⟨rfl, ⟨nd, rfl⟩⟩; (try first | exact ⟨rfl, _, World.drewN_drewN _ _ _⟩ | exact ⟨rfl, _, Eq.trans (World.drewN_drewN _ _ _) (congrArg (World.drewN _) (Nat.add_assoc _ _ _))⟩)) | (go_at_call 61; (with_reducible refine (spec_l5In.calls ((rd_T92 (rd_L5 l0 x8_2) x9_3).f1) 0 (wrap64 (a1 - 1)) false _ A22.out).mono ?_); rintro e w' ⟨rfl, ⟨nd, rfl⟩⟩; (try first | exact ⟨rfl, _, World.drewN_drewN _ _ _⟩ | exact ⟨rfl, _, Eq.trans (World.drewN_drewN _ _ _) (congrArg (World.drewN _) (Nat.add_assoc _ _ _))⟩)))
                                    repeat (go_quiet (first | (go_at_call 61; (with_reducible refine (spec_l5In.calls ((rd_T92 (rd_L5 l0 x8_2) x9_3).f0) 0 (wrap64 (a1 - 1)) true _ A20.out).mono ?_); rintro e w' ⟨rfl, ⟨nd, rfl⟩⟩; (try first | exact ⟨rfl, _, World.drewN_drewN _ _ _⟩ | exact ⟨rfl, _, Eq.trans (World.drewN_drewN _ _ _) (congrArg (World.drewN _) (Nat.add_assoc _ _ _))⟩)) | (go_at_call 61; (with_reducible refine (spec_l5In.calls ((rd_T92 (rd_L5 l0 x8_2) x9_3).f1) 0 (wrap64 (a1 - 1)) false _ A22.out).mono ?_); rintro e w' ⟨rfl, ⟨nd, rfl⟩⟩; (try first | exact ⟨rfl, _, World.drewN_drewN _ _ _⟩ | exact ⟨rfl, _, Eq.trans (World.drewN_drewN _ _ _) (congrArg (World.drewN _) (Nat.add_assoc _ _ _))⟩))); try go_wp2_with (first | (go_at_call 61; (with_reducible refine (spec_l5In.calls ((rd_T92 (rd_L5 l0 x8_2) x9_3).f0) 0 (wrap64 (a1 - 1)) true _ A20.out).mono ?_); rintro e w' ⟨rfl, ⟨nd, rfl⟩⟩; (try first | exact ⟨rfl, _, World.drewN_drewN _ _ _⟩ | exact ⟨rfl, _, Eq.trans (World.drewN_drewN _ _ _) (congrArg (World.drewN _) (Nat.add_assoc _ _ _))⟩)) | (go_at_call 61; (with_reducible refine (spec_l5In.calls ((rd_T92 (rd_L5 l0 x8_2) x9_3).f1) 0 (wrap64 (a1 - 1)) false _ A22.out).mono ?_); rintro e w' ⟨rfl, ⟨nd, rfl⟩⟩; (try first | exact ⟨rfl, _, World.drewN_drewN _ _ _⟩ | exact ⟨rfl, _, Eq.trans (World.drewN_drewN _ _ _) (congrArg (World.drewN _) (Nat.add_assoc _ _ _))⟩))))
                                    go_meet
                                    case rel => exact ⟨_, (true), (by first | rfl | (simp; done) | (simp [*]; done)), H', ⟨by have := HJ3.out; have := HK2.out; have := HK3.out; first | omega | exact Nat.le_refl _⟩, ⟨by (with_reducible repeat (first | refine blk_drewN ?_ _ | refine blk_drew ?_ | refine blk_alloc ?_ _)); refine blk_put (cs := #[.int .i64 ((rd_T92 (rd_L5 l0 x8_2) x9_3).f0), .int .i64 ((rd_T92 (rd_L5 l0 x8_2) x9_3).f1), .int .i64 ((rd_T92 (rd_L5 l0 x8_2) x9_3).f2), .bool false]) ?_ 3 _ rfl; (with_reducible repeat (first | refine blk_drewN ?_ _ | refine blk_drew ?_ | refine blk_alloc ?_ _)); refine blk_put (cs := #[.int .i64 ((rd_T92 (rd_L5 l0 x8_2) x9_3).f0), .int .i64 ((rd_T92 (rd_L5 l0 x8_2) x9_3).f1), .int .i64 0, .bool false]) ?_ 2 _ rfl; (with_reducible repeat (first | refine blk_drewN ?_ _ | refine blk_drew ?_ | refine blk_alloc ?_ _)); refine blk_put (cs := #[.int .i64 ((rd_T92 (rd_L5 l0 x8_2) x9_3).f0), .int .i64 0, .int .i64 0, .bool false]) ?_ 1 _ rfl; (with_reducible repeat (first | refine blk_drewN ?_ _ | refine blk_drew ?_ | refine blk_alloc ?_ _)); refine blk_put (cs := #[.int .i64 0, .int .i64 0, .int .i64 0, .bool false]) ?_ 0 _ rfl; (with_reducible repeat (first | refine blk_drewN ?_ _ | refine blk_drew ?_ | refine blk_alloc ?_ _)); exact BK124.out⟩, ⟨by repeat (first | (with_reducible first | exact HB.out | apply below_alloc | apply pw_below_drewN | apply below_drew1 | refine below_set ?_ GE124.out) | exact HB.out)⟩⟩
                                · replace c21 := Bool.eq_false_iff.mpr c21
                                  subst c21
                                  have H1 : (spec_MovesOk.j3 k3 l0 a1 a2 (wrap64 (x7_2 + ((rd_L5 l0 x8_2).length : Int))) x8_2 x9_3 true ((rd_T92 (rd_L5 l0 x8_2) x9_3).f0) ((rd_T92 (rd_L5 l0 x8_2) x9_3).f1) ((rd_T92 (rd_L5 l0 x8_2) x9_3).f2) ((rd_T92 (rd_L5 l0 x8_2) x9_3).f3)) = some r := by rw [if_neg (show ¬ (false = true) by decide)] at H; exact H
                                  clear H
                                  have H := H1
                                  clear H1
                                  have H' := Aside0.mk H
                                  clear H
                                  have hcz29_0 : w18.cell? ⟨gb124, 0, none⟩ = some (.int .i64 0) := (blk_cell BK124.out 0).trans rfl
                                  have hcz29_1 : w18.cell? ⟨gb124, 1, none⟩ = some (.int .i64 0) := (blk_cell BK124.out 1).trans rfl
                                  have hcz29_2 : w18.cell? ⟨gb124, 2, none⟩ = some (.int .i64 0) := (blk_cell BK124.out 2).trans rfl
                                  have hcz29_3 : w18.cell? ⟨gb124, 3, none⟩ = some (.bool false) := (blk_cell BK124.out 3).trans rfl
                                  have hfz29_0 := blk_frozen BK124.out 0
                                  have hfz29_1 := blk_frozen BK124.out 1
                                  have hfz29_2 := blk_frozen BK124.out 2
                                  have hfz29_3 := blk_frozen BK124.out 3
                                  go_wp2_with (first | (go_at_call 61; (with_reducible refine (spec_l5In.calls ((rd_T92 (rd_L5 l0 x8_2) x9_3).f0) 0 (wrap64 (a1 - 1)) false _ A20.out).mono ?_); rintro e w' ⟨rfl, ⟨nd, rfl⟩⟩; (try first | exact ⟨rfl, _, World.drewN_drewN _ _ _⟩ | exact ⟨rfl, _, Eq.trans (World.drewN_drewN _ _ _) (congrArg (World.drewN _) (Nat.add_assoc _ _ _))⟩)))
                                  repeat (go_quiet (first | (go_at_call 61; (with_reducible refine (spec_l5In.calls ((rd_T92 (rd_L5 l0 x8_2) x9_3).f0) 0 (wrap64 (a1 - 1)) false _ A20.out).mono ?_); rintro e w' ⟨rfl, ⟨nd, rfl⟩⟩; (try first | exact ⟨rfl, _, World.drewN_drewN _ _ _⟩ | exact ⟨rfl, _, Eq.trans (World.drewN_drewN _ _ _) (congrArg (World.drewN _) (Nat.add_assoc _ _ _))⟩))); try go_wp2_with (first | (go_at_call 61; (with_reducible refine (spec_l5In.calls ((rd_T92 (rd_L5 l0 x8_2) x9_3).f0) 0 (wrap64 (a1 - 1)) false _ A20.out).mono ?_); rintro e w' ⟨rfl, ⟨nd, rfl⟩⟩; (try first | exact ⟨rfl, _, World.drewN_drewN _ _ _⟩ | exact ⟨rfl, _, Eq.trans (World.drewN_drewN _ _ _) (congrArg (World.drewN _) (Nat.add_assoc _ _ _))⟩))))
                                  go_meet
                                  case rel => exact ⟨_, (true), (by first | rfl | (simp; done) | (simp [*]; done)), H', ⟨by have := HJ3.out; have := HK2.out; have := HK3.out; first | omega | exact Nat.le_refl _⟩, ⟨by (with_reducible repeat (first | refine blk_drewN ?_ _ | refine blk_drew ?_ | refine blk_alloc ?_ _)); refine blk_put (cs := #[.int .i64 ((rd_T92 (rd_L5 l0 x8_2) x9_3).f0), .int .i64 ((rd_T92 (rd_L5 l0 x8_2) x9_3).f1), .int .i64 ((rd_T92 (rd_L5 l0 x8_2) x9_3).f2), .bool false]) ?_ 3 _ rfl; (with_reducible repeat (first | refine blk_drewN ?_ _ | refine blk_drew ?_ | refine blk_alloc ?_ _)); refine blk_put (cs := #[.int .i64 ((rd_T92 (rd_L5 l0 x8_2) x9_3).f0), .int .i64 ((rd_T92 (rd_L5 l0 x8_2) x9_3).f1), .int .i64 0, .bool false]) ?_ 2 _ rfl; (with_reducible repeat (first | refine blk_drewN ?_ _ | refine blk_drew ?_ | refine blk_alloc ?_ _)); refine blk_put (cs := #[.int .i64 ((rd_T92 (rd_L5 l0 x8_2) x9_3).f0), .int .i64 0, .int .i64 0, .bool false]) ?_ 1 _ rfl; (with_reducible repeat (first | refine blk_drewN ?_ _ | refine blk_drew ?_ | refine blk_alloc ?_ _)); refine blk_put (cs := #[.int .i64 0, .int .i64 0, .int .i64 0, .bool false]) ?_ 0 _ rfl; (with_reducible repeat (first | refine blk_drewN ?_ _ | refine blk_drew ?_ | refine blk_alloc ?_ _)); exact BK124.out⟩, ⟨by repeat (first | (with_reducible first | exact HB.out | apply below_alloc | apply pw_below_drewN | apply below_drew1 | refine below_set ?_ GE124.out) | exact HB.out)⟩⟩
                              case rest =>
                                clear HC17
                                try clear c1
                                try clear p1
                                try clear q1
                                try clear hx1
                                try clear c2
                                try clear p2
                                try clear c6
                                try clear p6
                                try clear c7
                                try clear c8
                                try clear c9
                                try clear c10
                                try clear c10b0
                                try clear c11
                                try clear c11b0
                                try clear c12
                                try clear c12b0
                                try clear p12
                                try clear q12
                                try clear hx12
                                try clear c13
                                try clear c13b0
                                try clear c14
                                try clear c14b0
                                try clear c15
                                try clear c15b0
                                try clear c16
                                try clear c16b0
                                try clear c21
                                try clear c23
                                try clear c24
                                try clear c24b0
                                try clear c24b1
                                try clear hcz19_0
                                try clear hcz19_1
                                try clear hcz19_2
                                try clear hcz19_3
                                try clear hcz25_0
                                try clear hcz25_1
                                try clear hcz25_2
                                try clear hcz25_3
                                try clear hcz27_0
                                try clear hcz27_1
                                try clear hcz27_2
                                try clear hcz27_3
                                try clear hcz28_0
                                try clear hcz28_1
                                try clear hcz28_2
                                try clear hcz28_3
                                try clear hcz29_0
                                try clear hcz29_1
                                try clear hcz29_2
                                try clear hcz29_3
                                try clear hfz19_0
                                try clear hfz19_1
                                try clear hfz19_2
                                try clear hfz19_3
                                try clear hfz25_0
                                try clear hfz25_1
                                try clear hfz25_2
                                try clear hfz25_3
                                try clear hfz27_0
                                try clear hfz27_1
                                try clear hfz27_2
                                try clear hfz27_3
                                try clear hfz28_0
                                try clear hfz28_1
                                try clear hfz28_2
                                try clear hfz28_3
                                try clear hfz29_0
                                try clear hfz29_1
                                try clear hfz29_2
                                try clear hfz29_3
                                try clear hx120_0
                                try clear hx121_0
                                try clear hx122_0
                                try clear hx123_0
                                try clear hx123_1
                                try clear hx123_2
                                try clear hx123_3
                                try clear p1
                                try clear p12
                                try clear p120
                                try clear p121
                                try clear p122
                                try clear p123
                                try clear p2
                                try clear p6
                                try clear q1
                                try clear q12
                                try clear q120
                                try clear q121
                                try clear q122
                                try clear q123
                                obtain ⟨kq, x84_16, rfl, HA, HJ16, BK124, HB⟩ := hcut
                                cases kq with
                                | zero => exact absurd HA.out (by simp [spec_MovesOk.j3])
                                | succ kj16 =>
                                  have H := HA.out
                                  clear HA
                                  simp only [spec_MovesOk.j3] at H
                                  by_cases c30 : x84_16 = true
                                  · subst c30
                                    have H1 : (some false) = some r := by rw [if_pos rfl] at H; exact H
                                    clear H
                                    have H := H1
                                    clear H1
                                    obtain rfl := Option.some.inj H
                                    go_wp2
                                    repeat (go_quiet (fail); try go_wp2)
                                    go_ret
                                    exact ⟨by first | rfl | (simp [errW_none, errW_some] <;> rfl) | (simp [*, errW_none, errW_some] <;> rfl), by repeat (first | (with_reducible first | exact HB.out | apply below_alloc | apply pw_below_drewN | apply below_drew1 | refine below_set ?_ GE124.out) | exact HB.out)⟩
                                  · replace c30 := Bool.eq_false_iff.mpr c30
                                    subst c30
                                    have H1 : (spec_MovesOk.l2 kj16 l0 a1 a2 (wrap64 (x7_2 + ((rd_L5 l0 x8_2).length : Int))) x8_2 x9_3 0 ((rd_T92 (rd_L5 l0 x8_2) x9_3).f0) ((rd_T92 (rd_L5 l0 x8_2) x9_3).f1) ((rd_T92 (rd_L5 l0 x8_2) x9_3).f2) ((rd_T92 (rd_L5 l0 x8_2) x9_3).f3)) = some r := by rw [if_neg (show ¬ (false = true) by decide)] at H; exact H
                                    clear H
                                    have H := H1
                                    clear H1
                                    have H' := Aside0.mk H
                                    clear H
                                    go_wp2
                                    repeat (go_quiet (fail); try go_wp2)
                                    go_loopg [11] kj16 (fun kq v11 w' => ∃ (x11_5 : Int), v11 = .int .i64 x11_5 ∧ Aside0 (spec_MovesOk.l2 kq l0 a1 a2 (wrap64 (x7_2 + ((rd_L5 l0 x8_2).length : Int))) x8_2 x9_3 x11_5 ((rd_T92 (rd_L5 l0 x8_2) x9_3).f0) ((rd_T92 (rd_L5 l0 x8_2) x9_3).f1) ((rd_T92 (rd_L5 l0 x8_2) x9_3).f2) ((rd_T92 (rd_L5 l0 x8_2) x9_3).f3) = some r) ∧ Aside0 (kq ≤ kj16) ∧ Aside0 (w'.heap[gb124]? = some (.cells #[.int .i64 ((rd_T92 (rd_L5 l0 x8_2) x9_3).f0), .int .i64 ((rd_T92 (rd_L5 l0 x8_2) x9_3).f1), .int .i64 ((rd_T92 (rd_L5 l0 x8_2) x9_3).f2), .bool ((rd_T92 (rd_L5 l0 x8_2) x9_3).f3)] 92 (0, 0))) ∧ Aside0 (Below w.heap.size w w'))
                                    case atStart => exact ⟨(0), (by first | rfl | (simp; done) | (simp [*]; done)), H', ⟨Nat.le_refl _⟩, ⟨by (with_reducible repeat (first | refine blk_drewN ?_ _ | refine blk_drew ?_ | refine blk_alloc ?_ _)); exact BK124.out⟩, ⟨by repeat (first | (with_reducible first | exact HB.out | apply below_alloc | apply pw_below_drewN | apply below_drew1 | refine below_set ?_ GE124.out) | exact HB.out)⟩⟩
                                    case round =>
                                      clear H'
                                      try clear c1
                                      try clear p1
                                      try clear q1
                                      try clear hx1
                                      try clear c2
                                      try clear p2
                                      try clear c3
                                      try clear c6
                                      try clear p6
                                      try clear c7
                                      try clear c8
                                      try clear c9
                                      try clear c10
                                      try clear c10b0
                                      try clear c11
                                      try clear c11b0
                                      try clear c12
                                      try clear c12b0
                                      try clear p12
                                      try clear q12
                                      try clear hx12
                                      try clear c13
                                      try clear c13b0
                                      try clear c14
                                      try clear c14b0
                                      try clear c15
                                      try clear c15b0
                                      try clear c16
                                      try clear c16b0
                                      try clear c21
                                      try clear c23
                                      try clear c24
                                      try clear c24b0
                                      try clear c24b1
                                      try clear c30
                                      try clear hcz19_0
                                      try clear hcz19_1
                                      try clear hcz19_2
                                      try clear hcz19_3
                                      try clear hcz25_0
                                      try clear hcz25_1
                                      try clear hcz25_2
                                      try clear hcz25_3
                                      try clear hcz27_0
                                      try clear hcz27_1
                                      try clear hcz27_2
                                      try clear hcz27_3
                                      try clear hcz28_0
                                      try clear hcz28_1
                                      try clear hcz28_2
                                      try clear hcz28_3
                                      try clear hcz29_0
                                      try clear hcz29_1
                                      try clear hcz29_2
                                      try clear hcz29_3
                                      try clear hfz19_0
                                      try clear hfz19_1
                                      try clear hfz19_2
                                      try clear hfz19_3
                                      try clear hfz25_0
                                      try clear hfz25_1
                                      try clear hfz25_2
                                      try clear hfz25_3
                                      try clear hfz27_0
                                      try clear hfz27_1
                                      try clear hfz27_2
                                      try clear hfz27_3
                                      try clear hfz28_0
                                      try clear hfz28_1
                                      try clear hfz28_2
                                      try clear hfz28_3
                                      try clear hfz29_0
                                      try clear hfz29_1
                                      try clear hfz29_2
                                      try clear hfz29_3
                                      try clear hx120_0
                                      try clear hx121_0
                                      try clear hx122_0
                                      try clear hx123_0
                                      try clear hx123_1
                                      try clear hx123_2
                                      try clear hx123_3
                                      try clear p1
                                      try clear p12
                                      try clear p120
                                      try clear p121
                                      try clear p122
                                      try clear p123
                                      try clear p2
                                      try clear p6
                                      try clear q1
                                      try clear q12
                                      try clear q120
                                      try clear q121
                                      try clear q122
                                      try clear q123
                                      obtain ⟨x11_5, rfl, HA, HK5, BK124, HB⟩ := hrel
                                      cases gk with
                                      | zero => exact absurd HA.out (by simp [spec_MovesOk.l2])
                                      | succ k5 =>
                                        have H := HA.out
                                        clear HA
                                        simp only [spec_MovesOk.l2] at H
                                        by_cases c31 : x11_5 < x9_3
                                        · rw [if_pos c31] at H
                                          have c31b0 : decide (x11_5 < x9_3) = true := decide_eq_true c31
                                          clear c31
                                          by_cases c32 : 0 ≤ x8_2
                                          · rw [if_pos c32] at H
                                            have c32b0 : decide (0 ≤ x8_2) = true := decide_eq_true c32
                                            clear c32
                                            by_cases c33 : x8_2 < (l0.length : Int)
                                            · rw [if_pos c33] at H
                                              have c33b0 : decide (x8_2 < (l0.length : Int)) = true := decide_eq_true c33
                                              clear c33
                                              by_cases c34 : 0 ≤ x11_5
                                              · rw [if_pos c34] at H
                                                have c34b0 : decide (0 ≤ x11_5) = true := decide_eq_true c34
                                                clear c34
                                                by_cases c35 : x11_5 < ((rd_L5 l0 x8_2).length : Int)
                                                · rw [if_pos c35] at H
                                                  have c35b0 : decide (x11_5 < ((rd_L5 l0 x8_2).length : Int)) = true := decide_eq_true c35
                                                  clear c35
                                                  by_cases c36 : ((rd_T92 (rd_L5 l0 x8_2) x11_5).f1) = ((rd_T92 (rd_L5 l0 x8_2) x9_3).f1)
                                                  · rw [if_pos c36] at H
                                                    have c36b0 : (((rd_T92 (rd_L5 l0 x8_2) x11_5).f1) == ((rd_T92 (rd_L5 l0 x8_2) x9_3).f1)) = true := beq_iff_eq.mpr c36
                                                    have c36b1 : (((rd_T92 (rd_L5 l0 x8_2) x11_5).f1) != ((rd_T92 (rd_L5 l0 x8_2) x9_3).f1)) = false := bne_eq_false_iff_eq.mpr c36
                                                    clear c36
                                                    by_cases c37 : ((rd_T92 (rd_L5 l0 x8_2) x11_5).f2) = ((rd_T92 (rd_L5 l0 x8_2) x9_3).f2)
                                                    · rw [if_pos c37] at H
                                                      have c37b0 : (((rd_T92 (rd_L5 l0 x8_2) x11_5).f2) == ((rd_T92 (rd_L5 l0 x8_2) x9_3).f2)) = true := beq_iff_eq.mpr c37
                                                      have c37b1 : (((rd_T92 (rd_L5 l0 x8_2) x11_5).f2) != ((rd_T92 (rd_L5 l0 x8_2) x9_3).f2)) = false := bne_eq_false_iff_eq.mpr c37
                                                      clear c37
                                                      obtain rfl := Option.some.inj H
                                                      have p128 : 0 ≤ (x8_2 : Int) := of_decide_eq_true (by first | (with_reducible assumption) | assumption)
                                                      have q128 : x8_2 < (l0.length : Int) := of_decide_eq_true (by first | (with_reducible assumption) | assumption)
                                                      obtain ⟨ad128, A128_0, c128_0, e128, hx128_0, hl128_0, hi128_0⟩ := at_L5 HR0.out x8_2 p128 q128
                                                      obtain rfl : ad120 = ad128 := (by injection e128)
                                                      replace hx128_0 := (HB.out.cell (World.block_lt_of_cell? w _ hx128_0)).trans hx128_0
                                                      have HR128_0 := Aside0.mk hi128_0
                                                      have HC128_0 := Aside0.mk hl128_0
                                                      clear hi128_0 hl128_0
                                                      replace p128 := eq_true p128
                                                      replace q128 := eq_true q128
                                                      have p129 : 0 ≤ (x11_5 : Int) := of_decide_eq_true (by first | (with_reducible assumption) | assumption)
                                                      have q129 : x11_5 < ((rd_L5 l0 x8_2).length : Int) := of_decide_eq_true (by first | (with_reducible assumption) | assumption)
                                                      obtain ⟨ad129, e129, hx129_0, hx129_1, hx129_2, hx129_3⟩ := at_T92 HR128_0.out x11_5 p129 q129
                                                      cases e129
                                                      replace hx129_0 := (HB.out.cell (World.block_lt_of_cell? w _ hx129_0)).trans hx129_0
                                                      replace hx129_1 := (HB.out.cell (World.block_lt_of_cell? w _ hx129_1)).trans hx129_1
                                                      replace hx129_2 := (HB.out.cell (World.block_lt_of_cell? w _ hx129_2)).trans hx129_2
                                                      replace hx129_3 := (HB.out.cell (World.block_lt_of_cell? w _ hx129_3)).trans hx129_3
                                                      replace p129 := eq_true p129
                                                      replace q129 := eq_true q129
                                                      have hcz38_0 : wr.cell? ⟨gb124, 0, none⟩ = some (.int .i64 ((rd_T92 (rd_L5 l0 x8_2) x9_3).f0)) := (blk_cell BK124.out 0).trans rfl
                                                      have hcz38_1 : wr.cell? ⟨gb124, 1, none⟩ = some (.int .i64 ((rd_T92 (rd_L5 l0 x8_2) x9_3).f1)) := (blk_cell BK124.out 1).trans rfl
                                                      have hcz38_2 : wr.cell? ⟨gb124, 2, none⟩ = some (.int .i64 ((rd_T92 (rd_L5 l0 x8_2) x9_3).f2)) := (blk_cell BK124.out 2).trans rfl
                                                      have hcz38_3 : wr.cell? ⟨gb124, 3, none⟩ = some (.bool ((rd_T92 (rd_L5 l0 x8_2) x9_3).f3)) := (blk_cell BK124.out 3).trans rfl
                                                      have hfz38_0 := blk_frozen BK124.out 0
                                                      have hfz38_1 := blk_frozen BK124.out 1
                                                      have hfz38_2 := blk_frozen BK124.out 2
                                                      have hfz38_3 := blk_frozen BK124.out 3
                                                      have p130 : 0 ≤ (x8_2 : Int) := of_decide_eq_true (by first | (with_reducible assumption) | assumption)
                                                      have q130 : x8_2 < (l0.length : Int) := of_decide_eq_true (by first | (with_reducible assumption) | assumption)
                                                      obtain ⟨ad130, A130_0, c130_0, e130, hx130_0, hl130_0, hi130_0⟩ := at_L5 HR0.out x8_2 p130 q130
                                                      obtain rfl : ad120 = ad130 := (by injection e130)
                                                      replace hx130_0 := (HB.out.cell (World.block_lt_of_cell? w _ hx130_0)).trans hx130_0
                                                      have HR130_0 := Aside0.mk hi130_0
                                                      have HC130_0 := Aside0.mk hl130_0
                                                      clear hi130_0 hl130_0
                                                      replace p130 := eq_true p130
                                                      replace q130 := eq_true q130
                                                      have ea_ := Option.some.inj (hx128_0.symm.trans hx130_0)
                                                      injection ea_ with ea_ en_ ec_
                                                      subst ea_
                                                      subst ec_
                                                      clear en_
                                                      have p131 : 0 ≤ (x11_5 : Int) := of_decide_eq_true (by first | (with_reducible assumption) | assumption)
                                                      have q131 : x11_5 < ((rd_L5 l0 x8_2).length : Int) := of_decide_eq_true (by first | (with_reducible assumption) | assumption)
                                                      obtain ⟨ad131, e131, hx131_0, hx131_1, hx131_2, hx131_3⟩ := at_T92 HR130_0.out x11_5 p131 q131
                                                      cases e131
                                                      replace hx131_0 := (HB.out.cell (World.block_lt_of_cell? w _ hx131_0)).trans hx131_0
                                                      replace hx131_1 := (HB.out.cell (World.block_lt_of_cell? w _ hx131_1)).trans hx131_1
                                                      replace hx131_2 := (HB.out.cell (World.block_lt_of_cell? w _ hx131_2)).trans hx131_2
                                                      replace hx131_3 := (HB.out.cell (World.block_lt_of_cell? w _ hx131_3)).trans hx131_3
                                                      replace p131 := eq_true p131
                                                      replace q131 := eq_true q131
                                                      go_wp2
                                                      repeat (go_quiet (fail); try go_wp2)
                                                      go_ret
                                                      exact ⟨by first | rfl | (simp [errW_none, errW_some] <;> rfl) | (simp [*, errW_none, errW_some] <;> rfl), by repeat (first | (with_reducible first | exact HB.out | apply below_alloc | apply pw_below_drewN | apply below_drew1 | refine below_set ?_ GE124.out) | exact HB.out)⟩
                                                    · rw [if_neg c37] at H
                                                      have c37b0 : (((rd_T92 (rd_L5 l0 x8_2) x11_5).f2) == ((rd_T92 (rd_L5 l0 x8_2) x9_3).f2)) = false := beq_eq_false_iff_ne.mpr c37
                                                      have c37b1 : (((rd_T92 (rd_L5 l0 x8_2) x11_5).f2) != ((rd_T92 (rd_L5 l0 x8_2) x9_3).f2)) = true := bne_iff_ne.mpr c37
                                                      have H' := Aside0.mk H
                                                      clear H
                                                      have p128 : 0 ≤ (x8_2 : Int) := of_decide_eq_true (by first | (with_reducible assumption) | assumption)
                                                      have q128 : x8_2 < (l0.length : Int) := of_decide_eq_true (by first | (with_reducible assumption) | assumption)
                                                      obtain ⟨ad128, A128_0, c128_0, e128, hx128_0, hl128_0, hi128_0⟩ := at_L5 HR0.out x8_2 p128 q128
                                                      obtain rfl : ad120 = ad128 := (by injection e128)
                                                      replace hx128_0 := (HB.out.cell (World.block_lt_of_cell? w _ hx128_0)).trans hx128_0
                                                      have HR128_0 := Aside0.mk hi128_0
                                                      have HC128_0 := Aside0.mk hl128_0
                                                      clear hi128_0 hl128_0
                                                      replace p128 := eq_true p128
                                                      replace q128 := eq_true q128
                                                      have p129 : 0 ≤ (x11_5 : Int) := of_decide_eq_true (by first | (with_reducible assumption) | assumption)
                                                      have q129 : x11_5 < ((rd_L5 l0 x8_2).length : Int) := of_decide_eq_true (by first | (with_reducible assumption) | assumption)
                                                      obtain ⟨ad129, e129, hx129_0, hx129_1, hx129_2, hx129_3⟩ := at_T92 HR128_0.out x11_5 p129 q129
                                                      cases e129
                                                      replace hx129_0 := (HB.out.cell (World.block_lt_of_cell? w _ hx129_0)).trans hx129_0
                                                      replace hx129_1 := (HB.out.cell (World.block_lt_of_cell? w _ hx129_1)).trans hx129_1
                                                      replace hx129_2 := (HB.out.cell (World.block_lt_of_cell? w _ hx129_2)).trans hx129_2
                                                      replace hx129_3 := (HB.out.cell (World.block_lt_of_cell? w _ hx129_3)).trans hx129_3
                                                      replace p129 := eq_true p129
                                                      replace q129 := eq_true q129
                                                      have hcz39_0 : wr.cell? ⟨gb124, 0, none⟩ = some (.int .i64 ((rd_T92 (rd_L5 l0 x8_2) x9_3).f0)) := (blk_cell BK124.out 0).trans rfl
                                                      have hcz39_1 : wr.cell? ⟨gb124, 1, none⟩ = some (.int .i64 ((rd_T92 (rd_L5 l0 x8_2) x9_3).f1)) := (blk_cell BK124.out 1).trans rfl
                                                      have hcz39_2 : wr.cell? ⟨gb124, 2, none⟩ = some (.int .i64 ((rd_T92 (rd_L5 l0 x8_2) x9_3).f2)) := (blk_cell BK124.out 2).trans rfl
                                                      have hcz39_3 : wr.cell? ⟨gb124, 3, none⟩ = some (.bool ((rd_T92 (rd_L5 l0 x8_2) x9_3).f3)) := (blk_cell BK124.out 3).trans rfl
                                                      have hfz39_0 := blk_frozen BK124.out 0
                                                      have hfz39_1 := blk_frozen BK124.out 1
                                                      have hfz39_2 := blk_frozen BK124.out 2
                                                      have hfz39_3 := blk_frozen BK124.out 3
                                                      have p130 : 0 ≤ (x8_2 : Int) := of_decide_eq_true (by first | (with_reducible assumption) | assumption)
                                                      have q130 : x8_2 < (l0.length : Int) := of_decide_eq_true (by first | (with_reducible assumption) | assumption)
                                                      obtain ⟨ad130, A130_0, c130_0, e130, hx130_0, hl130_0, hi130_0⟩ := at_L5 HR0.out x8_2 p130 q130
                                                      obtain rfl : ad120 = ad130 := (by injection e130)
                                                      replace hx130_0 := (HB.out.cell (World.block_lt_of_cell? w _ hx130_0)).trans hx130_0
                                                      have HR130_0 := Aside0.mk hi130_0
                                                      have HC130_0 := Aside0.mk hl130_0
                                                      clear hi130_0 hl130_0
                                                      replace p130 := eq_true p130
                                                      replace q130 := eq_true q130
                                                      have ea_ := Option.some.inj (hx128_0.symm.trans hx130_0)
                                                      injection ea_ with ea_ en_ ec_
                                                      subst ea_
                                                      subst ec_
                                                      clear en_
                                                      have p131 : 0 ≤ (x11_5 : Int) := of_decide_eq_true (by first | (with_reducible assumption) | assumption)
                                                      have q131 : x11_5 < ((rd_L5 l0 x8_2).length : Int) := of_decide_eq_true (by first | (with_reducible assumption) | assumption)
                                                      obtain ⟨ad131, e131, hx131_0, hx131_1, hx131_2, hx131_3⟩ := at_T92 HR130_0.out x11_5 p131 q131
                                                      cases e131
                                                      replace hx131_0 := (HB.out.cell (World.block_lt_of_cell? w _ hx131_0)).trans hx131_0
                                                      replace hx131_1 := (HB.out.cell (World.block_lt_of_cell? w _ hx131_1)).trans hx131_1
                                                      replace hx131_2 := (HB.out.cell (World.block_lt_of_cell? w _ hx131_2)).trans hx131_2
                                                      replace hx131_3 := (HB.out.cell (World.block_lt_of_cell? w _ hx131_3)).trans hx131_3
                                                      replace p131 := eq_true p131
                                                      replace q131 := eq_true q131
                                                      go_wp2
                                                      repeat (go_quiet (fail); try go_wp2)
                                                      go_roundg k5
                                                      case measure => have := HJ3.out; have := HK2.out; have := HK3.out; have := HJ16.out; have := HK5.out; omega
                                                      case rel => exact ⟨(wrap64 (x11_5 + 1)), (by first | rfl | (simp; done) | (simp [*]; done)), H', ⟨by have := HJ3.out; have := HK2.out; have := HK3.out; have := HJ16.out; have := HK5.out; omega⟩, ⟨by (with_reducible repeat (first | refine blk_drewN ?_ _ | refine blk_drew ?_ | refine blk_alloc ?_ _)); exact BK124.out⟩, ⟨by repeat (first | (with_reducible first | exact HB.out | apply below_alloc | apply pw_below_drewN | apply below_drew1 | refine below_set ?_ GE124.out) | exact HB.out)⟩⟩
                                                  · rw [if_neg c36] at H
                                                    have c36b0 : (((rd_T92 (rd_L5 l0 x8_2) x11_5).f1) == ((rd_T92 (rd_L5 l0 x8_2) x9_3).f1)) = false := beq_eq_false_iff_ne.mpr c36
                                                    have c36b1 : (((rd_T92 (rd_L5 l0 x8_2) x11_5).f1) != ((rd_T92 (rd_L5 l0 x8_2) x9_3).f1)) = true := bne_iff_ne.mpr c36
                                                    have H' := Aside0.mk H
                                                    clear H
                                                    have p128 : 0 ≤ (x8_2 : Int) := of_decide_eq_true (by first | (with_reducible assumption) | assumption)
                                                    have q128 : x8_2 < (l0.length : Int) := of_decide_eq_true (by first | (with_reducible assumption) | assumption)
                                                    obtain ⟨ad128, A128_0, c128_0, e128, hx128_0, hl128_0, hi128_0⟩ := at_L5 HR0.out x8_2 p128 q128
                                                    obtain rfl : ad120 = ad128 := (by injection e128)
                                                    replace hx128_0 := (HB.out.cell (World.block_lt_of_cell? w _ hx128_0)).trans hx128_0
                                                    have HR128_0 := Aside0.mk hi128_0
                                                    have HC128_0 := Aside0.mk hl128_0
                                                    clear hi128_0 hl128_0
                                                    replace p128 := eq_true p128
                                                    replace q128 := eq_true q128
                                                    have p129 : 0 ≤ (x11_5 : Int) := of_decide_eq_true (by first | (with_reducible assumption) | assumption)
                                                    have q129 : x11_5 < ((rd_L5 l0 x8_2).length : Int) := of_decide_eq_true (by first | (with_reducible assumption) | assumption)
                                                    obtain ⟨ad129, e129, hx129_0, hx129_1, hx129_2, hx129_3⟩ := at_T92 HR128_0.out x11_5 p129 q129
                                                    cases e129
                                                    replace hx129_0 := (HB.out.cell (World.block_lt_of_cell? w _ hx129_0)).trans hx129_0
                                                    replace hx129_1 := (HB.out.cell (World.block_lt_of_cell? w _ hx129_1)).trans hx129_1
                                                    replace hx129_2 := (HB.out.cell (World.block_lt_of_cell? w _ hx129_2)).trans hx129_2
                                                    replace hx129_3 := (HB.out.cell (World.block_lt_of_cell? w _ hx129_3)).trans hx129_3
                                                    replace p129 := eq_true p129
                                                    replace q129 := eq_true q129
                                                    have hcz40_0 : wr.cell? ⟨gb124, 0, none⟩ = some (.int .i64 ((rd_T92 (rd_L5 l0 x8_2) x9_3).f0)) := (blk_cell BK124.out 0).trans rfl
                                                    have hcz40_1 : wr.cell? ⟨gb124, 1, none⟩ = some (.int .i64 ((rd_T92 (rd_L5 l0 x8_2) x9_3).f1)) := (blk_cell BK124.out 1).trans rfl
                                                    have hcz40_2 : wr.cell? ⟨gb124, 2, none⟩ = some (.int .i64 ((rd_T92 (rd_L5 l0 x8_2) x9_3).f2)) := (blk_cell BK124.out 2).trans rfl
                                                    have hcz40_3 : wr.cell? ⟨gb124, 3, none⟩ = some (.bool ((rd_T92 (rd_L5 l0 x8_2) x9_3).f3)) := (blk_cell BK124.out 3).trans rfl
                                                    have hfz40_0 := blk_frozen BK124.out 0
                                                    have hfz40_1 := blk_frozen BK124.out 1
                                                    have hfz40_2 := blk_frozen BK124.out 2
                                                    have hfz40_3 := blk_frozen BK124.out 3
                                                    go_wp2
                                                    repeat (go_quiet (fail); try go_wp2)
                                                    go_roundg k5
                                                    case measure => have := HJ3.out; have := HK2.out; have := HK3.out; have := HJ16.out; have := HK5.out; omega
                                                    case rel => exact ⟨(wrap64 (x11_5 + 1)), (by first | rfl | (simp; done) | (simp [*]; done)), H', ⟨by have := HJ3.out; have := HK2.out; have := HK3.out; have := HJ16.out; have := HK5.out; omega⟩, ⟨by (with_reducible repeat (first | refine blk_drewN ?_ _ | refine blk_drew ?_ | refine blk_alloc ?_ _)); exact BK124.out⟩, ⟨by repeat (first | (with_reducible first | exact HB.out | apply below_alloc | apply pw_below_drewN | apply below_drew1 | refine below_set ?_ GE124.out) | exact HB.out)⟩⟩
                                                · rw [if_neg c35] at H
                                                  exact absurd H (by simp)
                                              · rw [if_neg c34] at H
                                                exact absurd H (by simp)
                                            · rw [if_neg c33] at H
                                              exact absurd H (by simp)
                                          · rw [if_neg c32] at H
                                            exact absurd H (by simp)
                                        · rw [if_neg c31] at H
                                          have c31b0 : decide (x11_5 < x9_3) = false := decide_eq_false c31
                                          clear c31
                                          have H' := Aside0.mk H
                                          clear H
                                          go_wp2
                                          repeat (go_quiet (fail); try go_wp2)
                                          go_roundg k5
                                          case measure => have := HJ3.out; have := HK2.out; have := HK3.out; have := HJ16.out; have := HK5.out; omega
                                          case rel => exact ⟨(wrap64 (x9_3 + 1)), (by first | rfl | (simp; done) | (simp [*]; done)), H', ⟨by have := HJ3.out; have := HK2.out; have := HK3.out; have := HJ16.out; have := HK5.out; omega⟩, ⟨by repeat (first | (with_reducible first | exact HB.out | apply below_alloc | apply pw_below_drewN | apply below_drew1 | refine below_set ?_ GE124.out) | exact HB.out)⟩⟩
                            · rw [if_neg c16] at H
                              exact absurd H (by simp)
                          · rw [if_neg c15] at H
                            have c15b0 : decide (x9_3 < ((rd_L5 l0 x8_2).length : Int)) = false := decide_eq_false c15
                            clear c15
                            have H' := Aside0.mk H
                            clear H
                            have p121 : 0 ≤ (x8_2 : Int) := of_decide_eq_true (by first | (with_reducible assumption) | assumption)
                            have q121 : x8_2 < (l0.length : Int) := of_decide_eq_true (by first | (with_reducible assumption) | assumption)
                            obtain ⟨ad121, A121_0, c121_0, e121, hx121_0, hl121_0, hi121_0⟩ := at_L5 HR0.out x8_2 p121 q121
                            obtain rfl : ad120 = ad121 := (by injection e121)
                            replace hx121_0 := (HB.out.cell (World.block_lt_of_cell? w _ hx121_0)).trans hx121_0
                            have HR121_0 := Aside0.mk hi121_0
                            have HC121_0 := Aside0.mk hl121_0
                            clear hi121_0 hl121_0
                            replace p121 := eq_true p121
                            replace q121 := eq_true q121
                            go_wp2
                            repeat (go_quiet (fail); try go_wp2)
                            go_roundg k3
                            case measure => have := HJ3.out; have := HK2.out; have := HK3.out; omega
                            case rel => exact ⟨((wrap64 (x7_2 + ((rd_L5 l0 x8_2).length : Int)))), (wrap64 (x8_2 + 1)), (by first | rfl | (simp; done) | (simp [*]; done)), (by first | rfl | (simp; done) | (simp [*]; done)), H', ⟨by have := HJ3.out; have := HK2.out; have := HK3.out; omega⟩, ⟨by repeat (first | (with_reducible first | exact HB.out | apply below_alloc | apply pw_below_drewN | apply below_drew1) | exact HB.out)⟩⟩
                        · rw [if_neg c14] at H
                          exact absurd H (by simp)
                      · rw [if_neg c13] at H
                        exact absurd H (by simp)
              · rw [if_neg c11] at H
                exact absurd H (by simp)
            · rw [if_neg c10] at H
              have c10b0 : decide (x8_2 < (l0.length : Int)) = false := decide_eq_false c10
              clear c10
              obtain rfl := Option.some.inj H
              go_wp2
              repeat (go_quiet (fail); try go_wp2)
              go_ret
              exact ⟨by first | rfl | (simp [errW_none, errW_some] <;> rfl) | (simp [*, errW_none, errW_some] <;> rfl), by repeat (first | (with_reducible first | exact HB.out | apply below_alloc | apply pw_below_drewN | apply below_drew1) | exact HB.out)⟩

end Go.Proofs.Ytpoblnigmfbnfac.PFnExactFinish
