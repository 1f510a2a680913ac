-- Printed out of the translation, hand-written contracts beside it; checked by the kernel alone.
import Derived.Test.YtpoblnigmfbnfacPFnExactFinishx0
import Derived.Test.YtpoblnigmfbnfacPFnExactFinishx4
import Derived.Test.YtpoblnigmfbnfacPFnExactFinishx5
namespace Go.Proofs.Ytpoblnigmfbnfac.PFnExactFinish
open Go.RowKit Go.Proofs.YtpoblnigmfbnfacW.PrintWords Go.Proofs.YtpoblnigmfbnfacW.PrintLast Go.Proofs.YtpoblnigmfbnfacW.PrintMore
attribute [local go_sem] max2_int min2_int max_two min_two max_three min_three max_four min_four   -- for this text's walks alone
set_option linter.unusedVariables false
set_option linter.unusedSimpArgs false

/-! ### impl_Finish: function 41 -/
mutual
def impl_Finish.j0 : Nat → List (List (S92)) → Int → List Int → Bool → Option (List Int)
  | 0, _, _, _, _ => none
  | k + 1, x0, x1, x3, x31 => if x31 = true then (some ([] : List Int)) else (if 0 ≤ x1 then (if (x1 : Int).toNat ≤ 35184372088832 then (impl_Finish.l0 k x3 (List.replicate (x1 : Int).toNat 0) x0 (x0.length : Int) 0) else (none)) else (none))
def impl_Finish.l0 : Nat → List Int → List Int → List (List (S92)) → Int → Int → Option (List Int)
  | 0, _, _, _, _, _ => none
  | k + 1, x3, x9, x34, x35, x36 => if x36 < x35 then (if 0 ≤ x36 then (if x36 < (x34.length : Int) then ((slices_Clone_int_int.f x9).bind fun t197 => ((slices_Clone_int_int.f x9).bind fun t200 => (impl_Finish.l1 k x3 t197 t200 x34 x35 x36 (rd_L5 x34 x36) ((rd_L5 x34 x36).length : Int) 0))) else (none)) else (none)) else (some x9)
def impl_Finish.l1 : Nat → List Int → List Int → List Int → List (List (S92)) → Int → Int → List (S92) → Int → Int → Option (List Int)
  | 0, _, _, _, _, _, _, _, _, _ => none
  | k + 1, x3, x12, x13, x34, x35, x36, x44, x45, x46 => if x46 < x45 then (if 0 ≤ x46 then (if x46 < (x44.length : Int) then (if 0 ≤ ((rd_T92 x44 x46).f0) then (if ((rd_T92 x44 x46).f0) < (x12.length : Int) then (if ((rd_T92 x44 x46).f0) < (x3.length : Int) then ((some (x12.set (((rd_T92 x44 x46).f0) : Int).toNat (wrap64 ((rd x12 ((rd_T92 x44 x46).f0)) + (rd x3 ((rd_T92 x44 x46).f0)))) : List Int)).bind fun y207 => (if ((rd_T92 x44 x46).f0) < (x13.length : Int) then ((some (x13.set (((rd_T92 x44 x46).f0) : Int).toNat (mx (rd x13 ((rd_T92 x44 x46).f0)) (rd y207 ((rd_T92 x44 x46).f0))) : List Int)).bind fun y210 => (if 0 ≤ ((rd_T92 x44 x46).f1) then (if ((rd_T92 x44 x46).f1) < (x13.length : Int) then (impl_Finish.l1 k x3 y207 (y210.set (((rd_T92 x44 x46).f1) : Int).toNat (mx (rd y210 ((rd_T92 x44 x46).f1)) (rd y207 ((rd_T92 x44 x46).f0)))) x34 x35 x36 x44 x45 (wrap64 (x46 + 1))) else (none)) else (none))) else (none))) else (none)) else (none)) else (none)) else (none)) else (none)) else (impl_Finish.l0 k x3 x13 x34 x35 (wrap64 (x36 + 1)))
end
def impl_Finish.f (k : Nat) (l0 : List (List (S92))) (a1 : Int) (a2 : Int) (l3 : List Int) : Option (List Int) := (impl_MovesOk.f k l0 a1 a2).bind fun t191 => (if t191 = true then (if (l3.length : Int) = a1 then ((impl_allWithin.f k l3 1 1000).bind fun t192 => (impl_Finish.j0 k l0 a1 l3 (!t192))) else (impl_Finish.j0 k l0 a1 l3 true)) else (impl_Finish.j0 k l0 a1 l3 true))
theorem impl_Finish.mono_l : ∀ k, (∀ y0 y1 y2 y3, LeO (impl_Finish.j0 k y0 y1 y2 y3) (impl_Finish.j0 (k + 1) y0 y1 y2 y3)) ∧ (∀ y0 y1 y2 y3 y4, LeO (impl_Finish.l0 k y0 y1 y2 y3 y4) (impl_Finish.l0 (k + 1) y0 y1 y2 y3 y4)) ∧ (∀ y0 y1 y2 y3 y4 y5 y6 y7 y8, LeO (impl_Finish.l1 k y0 y1 y2 y3 y4 y5 y6 y7 y8) (impl_Finish.l1 (k + 1) y0 y1 y2 y3 y4 y5 y6 y7 y8))
  | 0 => ⟨fun _ _ _ _ r h => by simp [impl_Finish.j0] at h, fun _ _ _ _ _ r h => by simp [impl_Finish.l0] at h, fun _ _ _ _ _ _ _ _ _ r h => by simp [impl_Finish.l1] at h⟩
  | k + 1 => by
    obtain ⟨ih0, ih1, ih2⟩ := impl_Finish.mono_l k
    refine ⟨?_, ?_, ?_⟩
    · intro y0 y1 y2 y3
      unfold impl_Finish.j0
      repeat' first
      | (with_reducible exact ih0 _ _ _ _)
      | (with_reducible exact ih1 _ _ _ _ _)
      | (with_reducible exact ih2 _ _ _ _ _ _ _ _ _)
      | (with_reducible exact impl_MovesOk.mono _ _ _ _)
      | (with_reducible exact impl_allWithin.mono _ _ _ _)
      | (with_reducible exact LeO.refl _)
      | (with_reducible exact LeO.none _)
      | (with_reducible refine LeO.ite ?_ ?_)
      | (with_reducible refine LeO.bind ?_ (fun _ => ?_))
      | exact ih0 _ _ _ _
      | exact ih1 _ _ _ _ _
      | exact ih2 _ _ _ _ _ _ _ _ _
      | exact impl_MovesOk.mono _ _ _ _
      | exact impl_allWithin.mono _ _ _ _
      | exact LeO.none _
      | refine LeO.ite ?_ ?_
      | refine LeO.bind ?_ (fun _ => ?_)
    · intro y0 y1 y2 y3 y4
      unfold impl_Finish.l0
      repeat' first
      | (with_reducible exact ih0 _ _ _ _)
      | (with_reducible exact ih1 _ _ _ _ _)
      | (with_reducible exact ih2 _ _ _ _ _ _ _ _ _)
      | (with_reducible exact impl_MovesOk.mono _ _ _ _)
      | (with_reducible exact impl_allWithin.mono _ _ _ _)
      | (with_reducible exact LeO.refl _)
      | (with_reducible exact LeO.none _)
      | (with_reducible refine LeO.ite ?_ ?_)
      | (with_reducible refine LeO.bind ?_ (fun _ => ?_))
      | exact ih0 _ _ _ _
      | exact ih1 _ _ _ _ _
      | exact ih2 _ _ _ _ _ _ _ _ _
      | exact impl_MovesOk.mono _ _ _ _
      | exact impl_allWithin.mono _ _ _ _
      | exact LeO.none _
      | refine LeO.ite ?_ ?_
      | refine LeO.bind ?_ (fun _ => ?_)
    · intro y0 y1 y2 y3 y4 y5 y6 y7 y8
      unfold impl_Finish.l1
      repeat' first
      | (with_reducible exact ih0 _ _ _ _)
      | (with_reducible exact ih1 _ _ _ _ _)
      | (with_reducible exact ih2 _ _ _ _ _ _ _ _ _)
      | (with_reducible exact impl_MovesOk.mono _ _ _ _)
      | (with_reducible exact impl_allWithin.mono _ _ _ _)
      | (with_reducible exact LeO.refl _)
      | (with_reducible exact LeO.none _)
      | (with_reducible refine LeO.ite ?_ ?_)
      | (with_reducible refine LeO.bind ?_ (fun _ => ?_))
      | exact ih0 _ _ _ _
      | exact ih1 _ _ _ _ _
      | exact ih2 _ _ _ _ _ _ _ _ _
      | exact impl_MovesOk.mono _ _ _ _
      | exact impl_allWithin.mono _ _ _ _
      | exact LeO.none _
      | refine LeO.ite ?_ ?_
      | refine LeO.bind ?_ (fun _ => ?_)
theorem impl_Finish.mono : ∀ a0 a1 a2 a3 k, LeO (impl_Finish.f k a0 a1 a2 a3) (impl_Finish.f (k + 1) a0 a1 a2 a3) := by
  intro a0 a1 a2 a3 k
  obtain ⟨ih0, ih1, ih2⟩ := impl_Finish.mono_l k
  unfold impl_Finish.f
  repeat' first
      | (with_reducible exact ih0 _ _ _ _)
      | (with_reducible exact ih1 _ _ _ _ _)
      | (with_reducible exact ih2 _ _ _ _ _ _ _ _ _)
      | (with_reducible exact impl_MovesOk.mono _ _ _ _)
      | (with_reducible exact impl_allWithin.mono _ _ _ _)
      | (with_reducible exact LeO.refl _)
      | (with_reducible exact LeO.none _)
      | (with_reducible refine LeO.ite ?_ ?_)
      | (with_reducible refine LeO.bind ?_ (fun _ => ?_))
      | exact ih0 _ _ _ _
      | exact ih1 _ _ _ _ _
      | exact ih2 _ _ _ _ _ _ _ _ _
      | exact impl_MovesOk.mono _ _ _ _
      | exact impl_allWithin.mono _ _ _ _
      | exact LeO.none _
      | refine LeO.ite ?_ ?_
      | refine LeO.bind ?_ (fun _ => ?_)
def impl_Finish.T12 : Bool × List (List Nat × List Nat) := (true, [([], []), ([], []), ([1], [1]), ([0, 2], [0, 2]), ([3], [3]), ([], []), ([], []), ([6], [6]), ([5, 7], [5, 7]), ([8], [8]), ([4, 9], [4, 9]), ([0, 2, 0, 1, 2, 3, 4, 5, 6, 7, 8, 9, 10], [0, 2]), ([11, 10, 0, 1, 2, 3, 4, 5, 6, 7, 8, 9, 10], [10, 11])])
def impl_Finish.B12 : List Nat := [0, 0, 2, 7, 15, 0, 0, 64, 224, 480, 1023, 2047, 4095]
theorem impl_Finish.tab12 : rtab .any (opsOf Try.f41 12) = impl_Finish.T12 := by kernel_rfl
theorem impl_Finish.bits12 : waitsOk impl_Finish.T12.2 impl_Finish.B12 = true := by kernel_rfl
def impl_Finish.T13 : Bool × List (List Nat × List Nat) := (true, [([], []), ([], []), ([1], [1]), ([], []), ([], []), ([4], [4]), ([3, 5], [3, 5]), ([6], [6]), ([], []), ([], []), ([9], [9]), ([8, 10], [8, 10]), ([11], [11]), ([7, 12], [7, 12]), ([0, 2, 0, 1, 2, 3, 4, 5, 6, 7, 8, 9, 10, 11, 12, 13], [0, 2]), ([14, 13, 0, 1, 2, 3, 4, 5, 6, 7, 8, 9, 10, 11, 12, 13], [13, 14])])
def impl_Finish.B13 : List Nat := [0, 0, 2, 0, 0, 16, 56, 120, 0, 0, 512, 1792, 3840, 8184, 16383, 32767]
theorem impl_Finish.tab13 : rtab .any (opsOf Try.f41 13) = impl_Finish.T13 := by kernel_rfl
theorem impl_Finish.bits13 : waitsOk impl_Finish.T13.2 impl_Finish.B13 = true := by kernel_rfl
def impl_Finish.T14 : Bool × List (List Nat × List Nat) := (true, [([], []), ([], []), ([1], [1]), ([], []), ([], []), ([4], [4]), ([3, 5], [3, 5]), ([6], [6]), ([], []), ([], []), ([9], [9]), ([8, 10], [8, 10]), ([11], [11]), ([7, 12], [7, 12]), ([0, 2, 0, 1, 2, 3, 4, 5, 6, 7, 8, 9, 10, 11, 12, 13], [0, 2]), ([14, 13, 0, 1, 2, 3, 4, 5, 6, 7, 8, 9, 10, 11, 12, 13], [13, 14])])
def impl_Finish.B14 : List Nat := [0, 0, 2, 0, 0, 16, 56, 120, 0, 0, 512, 1792, 3840, 8184, 16383, 32767]
theorem impl_Finish.tab14 : rtab .any (opsOf Try.f41 14) = impl_Finish.T14 := by kernel_rfl
theorem impl_Finish.bits14 : waitsOk impl_Finish.T14.2 impl_Finish.B14 = true := by kernel_rfl
set_option maxHeartbeats 8000000 in
set_option maxRecDepth 100000 in
theorem impl_Finish.calls (k : Nat) (A0 : Option Addr) (c0 : Nat) (l0 : List (List (S92))) (a1 : Int) (a2 : Int) (A3 : Option Addr) (c3 : Nat) (l3 : List Int) (r : List Int) (w : World) (hr0 : Kd.C (Kd.slice 92 k92) w A0 l0.length l0) (hc0 : l0.length ≤ c0) (hr3 : Kd.C (Kd.int .i64) w A3 l3.length l3) (hc3 : l3.length ≤ c3) (h : impl_Finish.f k l0 a1 a2 l3 = some r) :
    Calls Try.prog 41 #[.slice A0 l0.length c0, .int .i64 a1, .int .i64 a2, .slice A3 l3.length c3] w fun e w' => ∃ v0_ : Value, e = .returned (v0_) ∧ Kd.R (Kd.int .i64) 3 w' w.heap.size (fun _ => True) v0_ r ∧ Below w.heap.size w w' := by
  have hu92 := Try.underlying92
  have HR0 := Aside0.mk hr0
  have HC0 := Aside0.mk hc0
  clear hr0 hc0
  have HR3 := Aside0.mk hr3
  have HC3 := Aside0.mk hc3
  clear hr3 hc3
  have HB := Aside0.mk (Below.refl w.heap.size w)
  have H : ((impl_MovesOk.f k l0 a1 a2).bind fun t191 => (if t191 = true then (if (l3.length : Int) = a1 then ((impl_allWithin.f k l3 1 1000).bind fun t192 => (impl_Finish.j0 k l0 a1 l3 (!t192))) else (impl_Finish.j0 k l0 a1 l3 true)) else (impl_Finish.j0 k l0 a1 l3 true))) = some r := h
  clear h
  have HC5 := Aside0.mk H
  clear H
  go_enter Try.func41, Try.ntmps41
  go_upto_region 1 with (fail)
  go_cut [31] (fun v31 wc => ∃ (kq : Nat) (x31_4 : Bool), v31 = .bool x31_4 ∧ Aside0 (impl_Finish.j0 kq l0 a1 l3 x31_4 = some r) ∧ Aside0 (kq ≤ k) ∧ Aside0 (Below w.heap.size w wc))
  case first =>
    have H := HC5.out
    clear HC5
    replace H := Option.bind_eq_some_iff.mp H
    obtain ⟨t191, A60, H⟩ := H
    replace H : (if t191 = true then (if (l3.length : Int) = a1 then ((impl_allWithin.f k l3 1 1000).bind fun t192 => (impl_Finish.j0 k l0 a1 l3 (!t192))) else (impl_Finish.j0 k l0 a1 l3 true)) else (impl_Finish.j0 k l0 a1 l3 true)) = some r := H
    have A6 := Aside0.mk A60
    clear A60
    by_cases c7 : t191 = true
    · subst c7
      have H1 : (if (l3.length : Int) = a1 then ((impl_allWithin.f k l3 1 1000).bind fun t192 => (impl_Finish.j0 k l0 a1 l3 (!t192))) else (impl_Finish.j0 k l0 a1 l3 true)) = some r := by rw [if_pos rfl] at H; exact H
      clear H
      have H := H1
      clear H1
      by_cases c8 : (l3.length : Int) = a1
      · rw [if_pos c8] at H
        have c8b0 : ((l3.length : Int) == a1) = true := beq_iff_eq.mpr c8
        have c8b1 : ((l3.length : Int) != a1) = false := bne_eq_false_iff_eq.mpr c8
        clear c8
        (first | rw [c8b0] | (simp only [i64_w, i32_w]; rw [c8b0]) | skip)
        replace H := Option.bind_eq_some_iff.mp H
        obtain ⟨t192, A90, H⟩ := H
        replace H : (impl_Finish.j0 k l0 a1 l3 (!t192)) = some r := H
        have A9 := Aside0.mk A90
        clear A90
        have H' := Aside0.mk H
        clear H
        go_wp2_with (first | ((with_reducible refine gate_callee (f := 74) rfl ?_); refine goesL_ (some 19) rfl rfl Try.func74 (by kernel_rfl) rfl #[.slice A0 l0.length c0, .int .i64 a1, .int .i64 a2] rfl (by (try simp only [List.map_toArray, List.map_cons, List.map_nil]); first | done | rfl | (simp only [List.length_drop, List.length_take]; rfl)) ?_; (with_reducible refine (impl_MovesOk.calls k _ _ l0 a1 a2 true _ ?side1 ?side2 A6.out).mono ?_); (case side1 => repeat (first | exact (Kd.C_below HR0.out HB.out) | (with_reducible refine Kd.C_alloc ?_ _) | (with_reducible refine Kd.C_drewN ?_ _) | (with_reducible refine Kd.C_drew ?_))); (case side2 => exact HC0.out); rintro e w10 ⟨rfl, hb⟩; refine ⟨_, rfl, ?_⟩; have n0_ := Aside0.mk (below_step (by repeat (first | (with_reducible first | exact HB.out | apply below_alloc | apply pw_below_drewN | apply below_drew1) | exact HB.out)) hb); clear HB; have HB := n0_; clear n0_; (try clear hb); (try clear hb2); (try clear hk); (try clear hi)) | (go_at_call 75; (with_reducible refine (impl_allWithin.calls k _ _ l3 1 1000 t192 _ ?side1 ?side2 A9.out).mono ?_); (case side1 => repeat (first | exact (Kd.C_below HR3.out HB.out) | (with_reducible refine Kd.C_alloc ?_ _) | (with_reducible refine Kd.C_drewN ?_ _) | (with_reducible refine Kd.C_drew ?_))); (case side2 => exact HC3.out); rintro e w' ⟨rfl, ⟨nd, rfl⟩⟩))
        go_meet
        case rel => exact ⟨_, (!t192), (by first | rfl | (simp; done) | (simp [*]; done)), H', ⟨by first | omega | exact Nat.le_refl _⟩, ⟨by repeat (first | (with_reducible first | exact HB.out | apply below_alloc | apply pw_below_drewN | apply below_drew1) | exact HB.out)⟩⟩
      · rw [if_neg c8] at H
        have c8b0 : ((l3.length : Int) == a1) = false := beq_eq_false_iff_ne.mpr c8
        have c8b1 : ((l3.length : Int) != a1) = true := bne_iff_ne.mpr c8
        (first | rw [c8b0] | (simp only [i64_w, i32_w]; rw [c8b0]) | skip)
        have H' := Aside0.mk H
        clear H
        go_wp2_with (first | ((with_reducible refine gate_callee (f := 74) rfl ?_); refine goesL_ (some 19) rfl rfl Try.func74 (by kernel_rfl) rfl #[.slice A0 l0.length c0, .int .i64 a1, .int .i64 a2] rfl (by (try simp only [List.map_toArray, List.map_cons, List.map_nil]); first | done | rfl | (simp only [List.length_drop, List.length_take]; rfl)) ?_; (with_reducible refine (impl_MovesOk.calls k _ _ l0 a1 a2 true _ ?side1 ?side2 A6.out).mono ?_); (case side1 => repeat (first | exact (Kd.C_below HR0.out HB.out) | (with_reducible refine Kd.C_alloc ?_ _) | (with_reducible refine Kd.C_drewN ?_ _) | (with_reducible refine Kd.C_drew ?_))); (case side2 => exact HC0.out); rintro e w11 ⟨rfl, hb⟩; refine ⟨_, rfl, ?_⟩; have n0_ := Aside0.mk (below_step (by repeat (first | (with_reducible first | exact HB.out | apply below_alloc | apply pw_below_drewN | apply below_drew1) | exact HB.out)) hb); clear HB; have HB := n0_; clear n0_; (try clear hb); (try clear hb2); (try clear hk); (try clear hi)))
        go_meet
        case rel => exact ⟨_, (true), (by first | rfl | (simp; done) | (simp [*]; done)), H', ⟨by first | omega | exact Nat.le_refl _⟩, ⟨by repeat (first | (with_reducible first | exact HB.out | apply below_alloc | apply pw_below_drewN | apply below_drew1) | exact HB.out)⟩⟩
    · replace c7 := Bool.eq_false_iff.mpr c7
      subst c7
      have H1 : (impl_Finish.j0 k l0 a1 l3 true) = some r := by rw [if_neg (show ¬ (false = true) by decide)] at H; exact H
      clear H
      have H := H1
      clear H1
      have H' := Aside0.mk H
      clear H
      go_wp2_with (first | ((with_reducible refine gate_callee (f := 74) rfl ?_); refine goesL_ (some 19) rfl rfl Try.func74 (by kernel_rfl) rfl #[.slice A0 l0.length c0, .int .i64 a1, .int .i64 a2] rfl (by (try simp only [List.map_toArray, List.map_cons, List.map_nil]); first | done | rfl | (simp only [List.length_drop, List.length_take]; rfl)) ?_; (with_reducible refine (impl_MovesOk.calls k _ _ l0 a1 a2 false _ ?side1 ?side2 A6.out).mono ?_); (case side1 => repeat (first | exact (Kd.C_below HR0.out HB.out) | (with_reducible refine Kd.C_alloc ?_ _) | (with_reducible refine Kd.C_drewN ?_ _) | (with_reducible refine Kd.C_drew ?_))); (case side2 => exact HC0.out); rintro e w12 ⟨rfl, hb⟩; refine ⟨_, rfl, ?_⟩; have n0_ := Aside0.mk (below_step (by repeat (first | (with_reducible first | exact HB.out | apply below_alloc | apply pw_below_drewN | apply below_drew1) | exact HB.out)) hb); clear HB; have HB := n0_; clear n0_; (try clear hb); (try clear hb2); (try clear hk); (try clear hi)))
      go_meet
      case rel => exact ⟨_, (true), (by first | rfl | (simp; done) | (simp [*]; done)), H', ⟨by first | omega | exact Nat.le_refl _⟩, ⟨by repeat (first | (with_reducible first | exact HB.out | apply below_alloc | apply pw_below_drewN | apply below_drew1) | exact HB.out)⟩⟩
  case rest =>
    clear HC5
    try clear p2
    try clear c3
    try clear c4
    try clear c7
    try clear c8
    try clear c8b0
    try clear c8b1
    obtain ⟨kq, x31_4, rfl, HA, HJ4, HB⟩ := hcut
    cases kq with
    | zero => exact absurd HA.out (by simp [impl_Finish.j0])
    | succ kj4 =>
      have H := HA.out
      clear HA
      simp only [impl_Finish.j0] at H
      by_cases c13 : x31_4 = true
      · subst c13
        have H1 : (some ([] : List Int)) = some r := by rw [if_pos rfl] at H; exact H
        clear H
        have H := H1
        clear H1
        obtain rfl := Option.some.inj H
        go_wp2
        go_ret
        exact ⟨_, by first | rfl | (simp [errW_none, errW_some] <;> rfl) | (simp [*, errW_none, errW_some] <;> rfl), by first | exact Kd.R_nil _ _ _ _ _ | exact Kd.N_nil _ _ _ _ _ | exact Kd.V_nil _ _ _ _ _ | exact Kd.Q_nil _ _ _ _ _ | exact Kd.S_nil _ _ _ _ _, by repeat (first | (with_reducible first | exact HB.out | apply below_alloc | apply pw_below_drewN | apply below_drew1) | exact HB.out)⟩
      · replace c13 := Bool.eq_false_iff.mpr c13
        subst c13
        have H1 : (if 0 ≤ a1 then (if (a1 : Int).toNat ≤ 35184372088832 then (impl_Finish.l0 kj4 l3 (List.replicate (a1 : Int).toNat 0) l0 (l0.length : Int) 0) else (none)) else (none)) = some r := by rw [if_neg (show ¬ (false = true) by decide)] at H; exact H
        clear H
        have H := H1
        clear H1
        by_cases c14 : 0 ≤ a1
        · rw [if_pos c14] at H
          have c14b0 := eq_true c14
          have c14b1 : decide (0 ≤ a1) = true := decide_eq_true c14
          clear c14
          by_cases c15 : (a1 : Int).toNat ≤ 35184372088832
          · rw [if_pos c15] at H
            have c15b0 := eq_true c15
            have c15b1 : decide ((a1 : Int).toNat ≤ 35184372088832) = true := decide_eq_true c15
            clear c15
            obtain ⟨y193, hy193⟩ : ∃ y_ : List Int, y_ = (List.replicate (a1 : Int).toNat 0) := ⟨_, rfl⟩
            replace H : (impl_Finish.l0 kj4 l3 y193 l0 (l0.length : Int) 0) = some r := by first | (rw [hy193]; with_reducible exact H) | (have H2_ := (Option.bind_some _ _).symm.trans H; rw [hy193]; with_reducible exact H2_) | (have H2_ := (Option.bind_some _ _).symm.trans H; with_reducible exact H2_) | with_reducible exact H | (rw [hy193]; exact H) | exact H
            have Ny193 := Aside0.mk hy193
            clear hy193
            have H' := Aside0.mk H
            clear H
            go_wp2_with (first | ((with_reducible refine gate_dst (N := 33) rfl ?_); (try (refine gate_guard (by rfl) ?_; dsimp only)); refine Kd.R_make (Kd.int .i64) _ 3 rfl (N := 33) rfl 22 _ _ rfl a1 rfl rfl Try.underlying22 (.int .i64 0) 8 info3 rfl (by decide) (by omega) 0 (ok := fun _ => True) (okp := fun _ => True) rfl (fun _ hk => hk) trivial (of_decide_eq_true (by first | (with_reducible assumption) | assumption)) (Nat.le_trans (Nat.mul_le_mul_right _ (of_decide_eq_true (by first | (with_reducible assumption) | assumption) : a1.toNat ≤ 35184372088832)) (by omega)) (Below.refl _ _) (Nat.le_refl _) ?_; intro v194 w16 ho17 hb hg_ hnew_; clear hg_ hnew_; (first | rw [← Ny193.out] at ho17 | (simp only [Int.reduceToNat] at ho17; rw [← Ny193.out] at ho17)); have n0_ := Aside0.mk (Kd.R_lower ho17 (below_size (by repeat (first | (with_reducible first | exact HB.out | apply below_alloc | apply pw_below_drewN | apply below_drew1) | exact HB.out)))); have n1_ := Aside0.mk (below_step (by repeat (first | (with_reducible first | exact HB.out | apply below_alloc | apply pw_below_drewN | apply below_drew1) | exact HB.out)) hb); clear HB; have HO195 := n0_; have HB := n1_; clear n0_ n1_; clear hb ho17))
            go_loopg [9, 36] kj4 (fun kq v9 v36 w' => ∃ (x9_2 : List Int) (x36_2 : Int), v36 = .int .i64 x36_2 ∧ Aside0 (impl_Finish.l0 kq l3 x9_2 l0 (l0.length : Int) x36_2 = some r) ∧ Aside0 (kq ≤ kj4) ∧ Aside0 (Kd.R (Kd.int .i64) 3 w' w.heap.size (fun _ => True) v9 x9_2) ∧ Aside0 (Below w.heap.size w w'))
            case atStart => exact ⟨(y193), (0), (by first | rfl | (simp; done) | (simp [*]; done)), H', ⟨Nat.le_refl _⟩, ⟨by (with_reducible repeat (first | apply Kd.R_alloc | apply Kd.R_drewN | apply Kd.R_drew)); exact HO195.out⟩, ⟨by repeat (first | (with_reducible first | exact HB.out | apply below_alloc | apply pw_below_drewN | apply below_drew1) | exact HB.out)⟩⟩
            case round =>
              clear H'
              try clear c1
              try clear p2
              try clear c3
              try clear c4
              try clear c7
              try clear c8
              try clear c8b0
              try clear c8b1
              try clear c13
              try clear c14
              try clear c14b0
              try clear c14b1
              try clear c15
              try clear c15b0
              try clear c15b1
              try clear p2
              obtain ⟨x9_2, x36_2, rfl, HA, HK2, HO_9, HB⟩ := hrel
              cases gk with
              | zero => exact absurd HA.out (by simp [impl_Finish.l0])
              | succ k2 =>
                have H := HA.out
                clear HA
                simp only [impl_Finish.l0] at H
                by_cases c18 : x36_2 < (l0.length : Int)
                · rw [if_pos c18] at H
                  have c18b0 : decide (x36_2 < (l0.length : Int)) = true := decide_eq_true c18
                  clear c18
                  by_cases c19 : 0 ≤ x36_2
                  · rw [if_pos c19] at H
                    have c19b0 : decide (0 ≤ x36_2) = true := decide_eq_true c19
                    clear c19
                    by_cases c20 : x36_2 < (l0.length : Int)
                    · rw [if_pos c20] at H
                      have c20b0 : decide (x36_2 < (l0.length : Int)) = true := decide_eq_true c20
                      clear c20
                      replace H := Option.bind_eq_some_iff.mp H
                      obtain ⟨t197, A210, H⟩ := H
                      replace H : ((slices_Clone_int_int.f x9_2).bind fun t200 => (impl_Finish.l1 k2 l3 t197 t200 l0 (l0.length : Int) x36_2 (rd_L5 l0 x36_2) ((rd_L5 l0 x36_2).length : Int) 0)) = some r := H
                      have A21 := Aside0.mk A210
                      clear A210
                      replace H := Option.bind_eq_some_iff.mp H
                      obtain ⟨t200, A220, H⟩ := H
                      replace H : (impl_Finish.l1 k2 l3 t197 t200 l0 (l0.length : Int) x36_2 (rd_L5 l0 x36_2) ((rd_L5 l0 x36_2).length : Int) 0) = some r := H
                      have A22 := Aside0.mk A220
                      clear A220
                      have H' := Aside0.mk H
                      clear H
                      have p196 : 0 ≤ (x36_2 : Int) := of_decide_eq_true (by first | (with_reducible assumption) | assumption)
                      have q196 : x36_2 < (l0.length : Int) := of_decide_eq_true (by first | (with_reducible assumption) | assumption)
                      obtain ⟨ad196, A196_0, c196_0, e196, hx196_0, hl196_0, hi196_0⟩ := at_L5 HR0.out x36_2 p196 q196
                      cases e196
                      replace hx196_0 := (HB.out.cell (World.block_lt_of_cell? w _ hx196_0)).trans hx196_0
                      have HR196_0 := Aside0.mk hi196_0
                      have HC196_0 := Aside0.mk hl196_0
                      clear hi196_0 hl196_0
                      replace p196 := eq_true p196
                      replace q196 := eq_true q196
                      obtain ⟨Ao23, co23, eo23⟩ := Kd.R_slice HO_9.out
                      subst eo23
                      go_wp2_with (first | ((with_reducible refine gate_callee (f := 53) rfl ?_); refine goesL_ (some 41) rfl rfl Try.func53 (by kernel_rfl) rfl #[.slice Ao23 x9_2.length co23] rfl (by (try simp only [List.map_toArray, List.map_cons, List.map_nil]); first | done | rfl | (simp only [List.length_drop, List.length_take]; rfl)) ?_; (with_reducible refine (slices_Clone_int_int.calls _ _ x9_2 t197 _ ?side1 ?side2 A21.out).mono ?_); (case side1 => repeat (first | exact (Kd.R_reads' HO_9.out).2.2 | (with_reducible refine Kd.C_alloc ?_ _) | (with_reducible refine Kd.C_drewN ?_ _) | (with_reducible refine Kd.C_drew ?_))); (case side2 => exact (Kd.R_reads' HO_9.out).2.1); rintro e w24 ⟨v198, rfl, ho0, hb⟩; refine ⟨_, rfl, ?_⟩; have n0_ := Aside0.mk (Kd.R_elder' (by (with_reducible repeat (first | apply Kd.R_alloc | apply Kd.R_drewN | apply Kd.R_drew)); exact HO_9.out) (Kd.R_base ho0) hb); have n1_ := Aside0.mk (Kd.R_lower (Kd.R_new' ho0 (Kd.R_lt (by (with_reducible repeat (first | apply Kd.R_alloc | apply Kd.R_drewN | apply Kd.R_drew)); exact HO_9.out))) (below_size (by repeat (first | (with_reducible first | exact HB.out | apply below_alloc | apply pw_below_drewN | apply below_drew1) | exact HB.out)))); have n2_ := Aside0.mk (below_step (by repeat (first | (with_reducible first | exact HB.out | apply below_alloc | apply pw_below_drewN | apply below_drew1) | exact HB.out)) hb); clear HO_9; clear HB; have HO_9 := n0_; have HO199 := n1_; have HB := n2_; clear n0_ n1_ n2_; (try clear hb); (try clear hb2); (try clear hk); (try clear hi); (try clear ho0)) | ((with_reducible refine gate_callee (f := 53) rfl ?_); refine goesL_ (some 43) rfl rfl Try.func53 (by kernel_rfl) rfl #[.slice Ao23 x9_2.length co23] rfl (by (try simp only [List.map_toArray, List.map_cons, List.map_nil]); first | done | rfl | (simp only [List.length_drop, List.length_take]; rfl)) ?_; (with_reducible refine (slices_Clone_int_int.calls _ _ x9_2 t200 _ ?side1 ?side2 A22.out).mono ?_); (case side1 => repeat (first | exact (Kd.R_reads' HO_9.out).2.2 | (with_reducible refine Kd.C_alloc ?_ _) | (with_reducible refine Kd.C_drewN ?_ _) | (with_reducible refine Kd.C_drew ?_))); (case side2 => exact (Kd.R_reads' HO_9.out).2.1); rintro e w25 ⟨v201, rfl, ho0, hb⟩; refine ⟨_, rfl, ?_⟩; have n0_ := Aside0.mk (Kd.R_elder' (by (with_reducible repeat (first | apply Kd.R_alloc | apply Kd.R_drewN | apply Kd.R_drew)); exact HO_9.out) (Kd.R_base ho0) hb); have n1_ := Aside0.mk (Kd.R_elder' (by (with_reducible repeat (first | apply Kd.R_alloc | apply Kd.R_drewN | apply Kd.R_drew)); exact HO199.out) (Kd.R_base ho0) hb); have n2_ := Aside0.mk (Kd.R_lower (Kd.R_new' (Kd.R_new' ho0 (Kd.R_lt (by (with_reducible repeat (first | apply Kd.R_alloc | apply Kd.R_drewN | apply Kd.R_drew)); exact HO_9.out))) (Kd.R_lt (by (with_reducible repeat (first | apply Kd.R_alloc | apply Kd.R_drewN | apply Kd.R_drew)); exact HO199.out))) (below_size (by repeat (first | (with_reducible first | exact HB.out | apply below_alloc | apply pw_below_drewN | apply below_drew1) | exact HB.out)))); have n3_ := Aside0.mk (below_step (by repeat (first | (with_reducible first | exact HB.out | apply below_alloc | apply pw_below_drewN | apply below_drew1) | exact HB.out)) hb); clear HO_9; clear HO199; clear HB; have HO_9 := n0_; have HO199 := n1_; have HO202 := n2_; have HB := n3_; clear n0_ n1_ n2_ n3_; (try clear hb); (try clear hb2); (try clear hk); (try clear hi); (try clear ho0)))
                      go_loopg [46] k2 (fun kq v46 w' => ∃ (x12_3 : List Int) (x13_3 : List Int) (x46_3 : Int), v46 = .int .i64 x46_3 ∧ Aside0 (impl_Finish.l1 kq l3 x12_3 x13_3 l0 (l0.length : Int) x36_2 (rd_L5 l0 x36_2) ((rd_L5 l0 x36_2).length : Int) x46_3 = some r) ∧ Aside0 (kq ≤ k2) ∧ Aside0 (Kd.R (Kd.int .i64) 3 w' w.heap.size (fun k_ => some k_ ≠ (v201 : Value).ownBlock) v198 x12_3) ∧ Aside0 (Kd.R (Kd.int .i64) 3 w' w.heap.size (fun k_ => some k_ ≠ (v198 : Value).ownBlock) v201 x13_3) ∧ Aside0 (Below w.heap.size w w'))
                      case atStart => exact ⟨(t197), (t200), (0), (by first | rfl | (simp; done) | (simp [*]; done)), H', ⟨Nat.le_refl _⟩, ⟨by (with_reducible repeat (first | apply Kd.R_alloc | apply Kd.R_drewN | apply Kd.R_drew)); exact Kd.R_mono HO199.out (fun _ hk => hk.2)⟩, ⟨by (with_reducible repeat (first | apply Kd.R_alloc | apply Kd.R_drewN | apply Kd.R_drew)); exact Kd.R_mono HO202.out (fun _ hk => hk.2)⟩, ⟨by repeat (first | (with_reducible first | exact HB.out | apply below_alloc | apply pw_below_drewN | apply below_drew1) | exact HB.out)⟩⟩
                      case round =>
                        clear H'
                        try clear c1
                        try clear p1
                        try clear q1
                        try clear hx1
                        try clear c2
                        try clear p2
                        try clear c3
                        try clear c4
                        try clear c5
                        try clear c7
                        try clear c8
                        try clear c8b0
                        try clear c8b1
                        try clear c13
                        try clear c14
                        try clear c14b0
                        try clear c14b1
                        try clear c15
                        try clear c15b0
                        try clear c15b1
                        try clear c18
                        try clear c18b0
                        try clear c19
                        try clear c19b0
                        try clear p19
                        try clear q19
                        try clear hx19
                        try clear c20
                        try clear c20b0
                        try clear hx196_0
                        try clear p196
                        try clear p2
                        try clear q196
                        obtain ⟨x12_3, x13_3, x46_3, rfl, HA, HK3, HO_12, HO_13, HB⟩ := hrel
                        cases gk with
                        | zero => exact absurd HA.out (by simp [impl_Finish.l1])
                        | succ k3 =>
                          have H := HA.out
                          clear HA
                          simp only [impl_Finish.l1] at H
                          by_cases c26 : x46_3 < ((rd_L5 l0 x36_2).length : Int)
                          · rw [if_pos c26] at H
                            have c26b0 : decide (x46_3 < ((rd_L5 l0 x36_2).length : Int)) = true := decide_eq_true c26
                            clear c26
                            by_cases c27 : 0 ≤ x46_3
                            · rw [if_pos c27] at H
                              have c27b0 : decide (0 ≤ x46_3) = true := decide_eq_true c27
                              clear c27
                              by_cases c28 : x46_3 < ((rd_L5 l0 x36_2).length : Int)
                              · rw [if_pos c28] at H
                                have c28b0 : decide (x46_3 < ((rd_L5 l0 x36_2).length : Int)) = true := decide_eq_true c28
                                clear c28
                                by_cases c29 : 0 ≤ ((rd_T92 (rd_L5 l0 x36_2) x46_3).f0)
                                · rw [if_pos c29] at H
                                  have c29b0 : decide (0 ≤ ((rd_T92 (rd_L5 l0 x36_2) x46_3).f0)) = true := decide_eq_true c29
                                  clear c29
                                  by_cases c30 : ((rd_T92 (rd_L5 l0 x36_2) x46_3).f0) < (x12_3.length : Int)
                                  · rw [if_pos c30] at H
                                    have c30b0 : decide (((rd_T92 (rd_L5 l0 x36_2) x46_3).f0) < (x12_3.length : Int)) = true := decide_eq_true c30
                                    clear c30
                                    by_cases c31 : ((rd_T92 (rd_L5 l0 x36_2) x46_3).f0) < (l3.length : Int)
                                    · rw [if_pos c31] at H
                                      have c31b0 : decide (((rd_T92 (rd_L5 l0 x36_2) x46_3).f0) < (l3.length : Int)) = true := decide_eq_true c31
                                      clear c31
                                      obtain ⟨y207, hy207⟩ : ∃ y_ : List Int, y_ = (x12_3.set (((rd_T92 (rd_L5 l0 x36_2) x46_3).f0) : Int).toNat (wrap64 ((rd x12_3 ((rd_T92 (rd_L5 l0 x36_2) x46_3).f0)) + (rd l3 ((rd_T92 (rd_L5 l0 x36_2) x46_3).f0))))) := ⟨_, rfl⟩
                                      replace H : (if ((rd_T92 (rd_L5 l0 x36_2) x46_3).f0) < (x13_3.length : Int) then ((some (x13_3.set (((rd_T92 (rd_L5 l0 x36_2) x46_3).f0) : Int).toNat (mx (rd x13_3 ((rd_T92 (rd_L5 l0 x36_2) x46_3).f0)) (rd y207 ((rd_T92 (rd_L5 l0 x36_2) x46_3).f0))) : List Int)).bind fun y210 => (if 0 ≤ ((rd_T92 (rd_L5 l0 x36_2) x46_3).f1) then (if ((rd_T92 (rd_L5 l0 x36_2) x46_3).f1) < (x13_3.length : Int) then (impl_Finish.l1 k3 l3 y207 (y210.set (((rd_T92 (rd_L5 l0 x36_2) x46_3).f1) : Int).toNat (mx (rd y210 ((rd_T92 (rd_L5 l0 x36_2) x46_3).f1)) (rd y207 ((rd_T92 (rd_L5 l0 x36_2) x46_3).f0)))) l0 (l0.length : Int) x36_2 (rd_L5 l0 x36_2) ((rd_L5 l0 x36_2).length : Int) (wrap64 (x46_3 + 1))) else (none)) else (none))) else (none)) = some r := by first | (rw [hy207]; with_reducible exact H) | (have H2_ := (Option.bind_some _ _).symm.trans H; rw [hy207]; with_reducible exact H2_) | (have H2_ := (Option.bind_some _ _).symm.trans H; with_reducible exact H2_) | with_reducible exact H | (rw [hy207]; exact H) | exact H
                                      have Ny207 := Aside0.mk hy207
                                      clear hy207
                                      by_cases c33 : ((rd_T92 (rd_L5 l0 x36_2) x46_3).f0) < (x13_3.length : Int)
                                      · rw [if_pos c33] at H
                                        have c33b0 : decide (((rd_T92 (rd_L5 l0 x36_2) x46_3).f0) < (x13_3.length : Int)) = true := decide_eq_true c33
                                        clear c33
                                        obtain ⟨ji34, hji34⟩ : ∃ j_ : Int, (mx (rd x13_3 ((rd_T92 (rd_L5 l0 x36_2) x46_3).f0)) (rd y207 ((rd_T92 (rd_L5 l0 x36_2) x46_3).f0))) = j_ := ⟨_, rfl⟩
                                        replace H : ((some (x13_3.set (((rd_T92 (rd_L5 l0 x36_2) x46_3).f0) : Int).toNat (ji34) : List Int)).bind fun y210 => (if 0 ≤ ((rd_T92 (rd_L5 l0 x36_2) x46_3).f1) then (if ((rd_T92 (rd_L5 l0 x36_2) x46_3).f1) < (x13_3.length : Int) then (impl_Finish.l1 k3 l3 y207 (y210.set (((rd_T92 (rd_L5 l0 x36_2) x46_3).f1) : Int).toNat (mx (rd y210 ((rd_T92 (rd_L5 l0 x36_2) x46_3).f1)) (rd y207 ((rd_T92 (rd_L5 l0 x36_2) x46_3).f0)))) l0 (l0.length : Int) x36_2 (rd_L5 l0 x36_2) ((rd_L5 l0 x36_2).length : Int) (wrap64 (x46_3 + 1))) else (none)) else (none))) = some r := by first | (rw [hji34] at H; exact H) | (simp only [hji34] at H ⊢; exact H)
                                        have hji34_ : (if (rd x13_3 ((rd_T92 (rd_L5 l0 x36_2) x46_3).f0)) < (rd y207 ((rd_T92 (rd_L5 l0 x36_2) x46_3).f0)) then (rd y207 ((rd_T92 (rd_L5 l0 x36_2) x46_3).f0)) else (rd x13_3 ((rd_T92 (rd_L5 l0 x36_2) x46_3).f0))) = ji34 := hji34
                                        obtain ⟨y210, hy210⟩ : ∃ y_ : List Int, y_ = (x13_3.set (((rd_T92 (rd_L5 l0 x36_2) x46_3).f0) : Int).toNat (ji34)) := ⟨_, rfl⟩
                                        replace H : (if 0 ≤ ((rd_T92 (rd_L5 l0 x36_2) x46_3).f1) then (if ((rd_T92 (rd_L5 l0 x36_2) x46_3).f1) < (x13_3.length : Int) then (impl_Finish.l1 k3 l3 y207 (y210.set (((rd_T92 (rd_L5 l0 x36_2) x46_3).f1) : Int).toNat (mx (rd y210 ((rd_T92 (rd_L5 l0 x36_2) x46_3).f1)) (rd y207 ((rd_T92 (rd_L5 l0 x36_2) x46_3).f0)))) l0 (l0.length : Int) x36_2 (rd_L5 l0 x36_2) ((rd_L5 l0 x36_2).length : Int) (wrap64 (x46_3 + 1))) else (none)) else (none)) = some r := by first | (rw [hy210]; with_reducible exact H) | (have H2_ := (Option.bind_some _ _).symm.trans H; rw [hy210]; with_reducible exact H2_) | (have H2_ := (Option.bind_some _ _).symm.trans H; with_reducible exact H2_) | with_reducible exact H | (rw [hy210]; exact H) | exact H
                                        have Ny210 := Aside0.mk hy210
                                        clear hy210
                                        by_cases c36 : 0 ≤ ((rd_T92 (rd_L5 l0 x36_2) x46_3).f1)
                                        · rw [if_pos c36] at H
                                          have c36b0 : decide (0 ≤ ((rd_T92 (rd_L5 l0 x36_2) x46_3).f1)) = true := decide_eq_true c36
                                          clear c36
                                          by_cases c37 : ((rd_T92 (rd_L5 l0 x36_2) x46_3).f1) < (x13_3.length : Int)
                                          · rw [if_pos c37] at H
                                            have c37b0 : decide (((rd_T92 (rd_L5 l0 x36_2) x46_3).f1) < (x13_3.length : Int)) = true := decide_eq_true c37
                                            clear c37
                                            obtain ⟨ji38, hji38⟩ : ∃ j_ : Int, (mx (rd y210 ((rd_T92 (rd_L5 l0 x36_2) x46_3).f1)) (rd y207 ((rd_T92 (rd_L5 l0 x36_2) x46_3).f0))) = j_ := ⟨_, rfl⟩
                                            replace H : (impl_Finish.l1 k3 l3 y207 (y210.set (((rd_T92 (rd_L5 l0 x36_2) x46_3).f1) : Int).toNat (ji38)) l0 (l0.length : Int) x36_2 (rd_L5 l0 x36_2) ((rd_L5 l0 x36_2).length : Int) (wrap64 (x46_3 + 1))) = some r := by first | (rw [hji38] at H; exact H) | (simp only [hji38] at H ⊢; exact H)
                                            have hji38_ : (if (rd y210 ((rd_T92 (rd_L5 l0 x36_2) x46_3).f1)) < (rd y207 ((rd_T92 (rd_L5 l0 x36_2) x46_3).f0)) then (rd y207 ((rd_T92 (rd_L5 l0 x36_2) x46_3).f0)) else (rd y210 ((rd_T92 (rd_L5 l0 x36_2) x46_3).f1))) = ji38 := hji38
                                            obtain ⟨y213, hy213⟩ : ∃ y_ : List Int, y_ = (y210.set (((rd_T92 (rd_L5 l0 x36_2) x46_3).f1) : Int).toNat (ji38)) := ⟨_, rfl⟩
                                            replace H : (impl_Finish.l1 k3 l3 y207 y213 l0 (l0.length : Int) x36_2 (rd_L5 l0 x36_2) ((rd_L5 l0 x36_2).length : Int) (wrap64 (x46_3 + 1))) = some r := by first | (rw [hy213]; with_reducible exact H) | (have H2_ := (Option.bind_some _ _).symm.trans H; rw [hy213]; with_reducible exact H2_) | (have H2_ := (Option.bind_some _ _).symm.trans H; with_reducible exact H2_) | with_reducible exact H | (rw [hy213]; exact H) | exact H
                                            have Ny213 := Aside0.mk hy213
                                            clear hy213
                                            have H' := Aside0.mk H
                                            clear H
                                            have p203 : 0 ≤ (x46_3 : Int) := of_decide_eq_true (by first | (with_reducible assumption) | assumption)
                                            have q203 : x46_3 < ((rd_L5 l0 x36_2).length : Int) := of_decide_eq_true (by first | (with_reducible assumption) | assumption)
                                            obtain ⟨ad203, e203, hx203_0, hx203_1, hx203_2, hx203_3⟩ := at_T92 HR196_0.out x46_3 p203 q203
                                            cases e203
                                            replace hx203_0 := (HB.out.cell (World.block_lt_of_cell? w _ hx203_0)).trans hx203_0
                                            replace hx203_1 := (HB.out.cell (World.block_lt_of_cell? w _ hx203_1)).trans hx203_1
                                            replace hx203_2 := (HB.out.cell (World.block_lt_of_cell? w _ hx203_2)).trans hx203_2
                                            replace hx203_3 := (HB.out.cell (World.block_lt_of_cell? w _ hx203_3)).trans hx203_3
                                            replace p203 := eq_true p203
                                            replace q203 := eq_true q203
                                            try go_wp2_with (first | ((with_reducible refine gate_dst (N := 15) rfl ?_); (try (refine gate_guard (by rfl) ?_; dsimp only)); refine box_event ?hg (N := 15) ?hd (cs := #[.int .i64 0, .int .i64 0, .int .i64 0, .bool false]) (t := 92) ?hr ?_; (case hd => rfl); (case hg => rfl); (case hr => first | (go_simp; done) | (go_simp; rfl)); intro gb204 hg w40 hbox hb; have n0_ := Aside0.mk (Kd.R_below (by (with_reducible repeat (first | apply Kd.R_alloc | apply Kd.R_drewN | apply Kd.R_drew)); exact HO_12.out) hb); have n1_ := Aside0.mk (Kd.R_below (by (with_reducible repeat (first | apply Kd.R_alloc | apply Kd.R_drewN | apply Kd.R_drew)); exact HO_13.out) hb); have n2_ := Aside0.mk (below_step (by repeat (first | (with_reducible first | exact HB.out | apply below_alloc | apply pw_below_drewN | apply below_drew1) | exact HB.out)) hb); have n3_ := Aside0.mk (hbox); have n4_ := Aside0.mk ((by rw [hg]; exact (below_size (by repeat (first | (with_reducible first | exact HB.out | apply below_alloc | apply pw_below_drewN | apply below_drew1) | exact HB.out))) : w.heap.size ≤ gb204)); have n5_ := Aside0.mk ((by rw [hg]; exact (below_size (by repeat (first | (with_reducible first | exact HB.out | apply below_alloc | apply pw_below_drewN | apply below_drew1) | exact HB.out))) : w.heap.size ≤ gb204)); clear HO_12; clear HO_13; clear HB; have HO_12 := n0_; have HO_13 := n1_; have HB := n2_; have BK204 := n3_; have GW204 := n4_; have GE204 := n5_; clear n0_ n1_ n2_ n3_ n4_ n5_; clear hb hbox hg; have hcz41_0 : w40.cell? ⟨gb204, 0, none⟩ = some (.int .i64 0) := (blk_cell BK204.out 0).trans rfl; have hcz41_1 : w40.cell? ⟨gb204, 1, none⟩ = some (.int .i64 0) := (blk_cell BK204.out 1).trans rfl; have hcz41_2 : w40.cell? ⟨gb204, 2, none⟩ = some (.int .i64 0) := (blk_cell BK204.out 2).trans rfl; have hcz41_3 : w40.cell? ⟨gb204, 3, none⟩ = some (.bool false) := (blk_cell BK204.out 3).trans rfl; have hfz41_0 := blk_frozen BK204.out 0; have hfz41_1 := blk_frozen BK204.out 1; have hfz41_2 := blk_frozen BK204.out 2; have hfz41_3 := blk_frozen BK204.out 3))
                                            have n0_ : Aside0 (Kd.R (Kd.int .i64) 3 ((((w40.setCell ⟨gb204, 0, none⟩ (.int .i64 ((rd_T92 (rd_L5 l0 x36_2) x46_3).f0))).setCell ⟨gb204, 1, none⟩ (.int .i64 ((rd_T92 (rd_L5 l0 x36_2) x46_3).f1))).setCell ⟨gb204, 2, none⟩ (.int .i64 ((rd_T92 (rd_L5 l0 x36_2) x46_3).f2))).setCell ⟨gb204, 3, none⟩ (.bool ((rd_T92 (rd_L5 l0 x36_2) x46_3).f3))) w.heap.size (fun k_ => some k_ ≠ (v201 : Value).ownBlock) v198 x12_3) := ⟨by (with_reducible repeat (first | apply Kd.R_alloc | apply Kd.R_drewN | apply Kd.R_drew)); exact Kd.R_mono (Kd.R_far (p := ⟨gb204, 3, none⟩) (Kd.R_far (p := ⟨gb204, 2, none⟩) (Kd.R_far (p := ⟨gb204, 1, none⟩) (Kd.R_far (p := ⟨gb204, 0, none⟩) (Kd.R_types HO_12.out BK204.out (by decide)) (fun _ hk => hk.2) (.int .i64 ((rd_T92 (rd_L5 l0 x36_2) x46_3).f0))) (fun _ hk => hk.2) (.int .i64 ((rd_T92 (rd_L5 l0 x36_2) x46_3).f1))) (fun _ hk => hk.2) (.int .i64 ((rd_T92 (rd_L5 l0 x36_2) x46_3).f2))) (fun _ hk => hk.2) (.bool ((rd_T92 (rd_L5 l0 x36_2) x46_3).f3))) (fun _ hk => hk.1)⟩
                                            have n1_ : Aside0 (Kd.R (Kd.int .i64) 3 ((((w40.setCell ⟨gb204, 0, none⟩ (.int .i64 ((rd_T92 (rd_L5 l0 x36_2) x46_3).f0))).setCell ⟨gb204, 1, none⟩ (.int .i64 ((rd_T92 (rd_L5 l0 x36_2) x46_3).f1))).setCell ⟨gb204, 2, none⟩ (.int .i64 ((rd_T92 (rd_L5 l0 x36_2) x46_3).f2))).setCell ⟨gb204, 3, none⟩ (.bool ((rd_T92 (rd_L5 l0 x36_2) x46_3).f3))) w.heap.size (fun k_ => some k_ ≠ (v198 : Value).ownBlock) v201 x13_3) := ⟨by (with_reducible repeat (first | apply Kd.R_alloc | apply Kd.R_drewN | apply Kd.R_drew)); exact Kd.R_mono (Kd.R_far (p := ⟨gb204, 3, none⟩) (Kd.R_far (p := ⟨gb204, 2, none⟩) (Kd.R_far (p := ⟨gb204, 1, none⟩) (Kd.R_far (p := ⟨gb204, 0, none⟩) (Kd.R_types HO_13.out BK204.out (by decide)) (fun _ hk => hk.2) (.int .i64 ((rd_T92 (rd_L5 l0 x36_2) x46_3).f0))) (fun _ hk => hk.2) (.int .i64 ((rd_T92 (rd_L5 l0 x36_2) x46_3).f1))) (fun _ hk => hk.2) (.int .i64 ((rd_T92 (rd_L5 l0 x36_2) x46_3).f2))) (fun _ hk => hk.2) (.bool ((rd_T92 (rd_L5 l0 x36_2) x46_3).f3))) (fun _ hk => hk.1)⟩
                                            have n2_ : Aside0 (((((w40.setCell ⟨gb204, 0, none⟩ (.int .i64 ((rd_T92 (rd_L5 l0 x36_2) x46_3).f0))).setCell ⟨gb204, 1, none⟩ (.int .i64 ((rd_T92 (rd_L5 l0 x36_2) x46_3).f1))).setCell ⟨gb204, 2, none⟩ (.int .i64 ((rd_T92 (rd_L5 l0 x36_2) x46_3).f2))).setCell ⟨gb204, 3, none⟩ (.bool ((rd_T92 (rd_L5 l0 x36_2) x46_3).f3))).heap[gb204]? = some (.cells #[.int .i64 ((rd_T92 (rd_L5 l0 x36_2) x46_3).f0), .int .i64 ((rd_T92 (rd_L5 l0 x36_2) x46_3).f1), .int .i64 ((rd_T92 (rd_L5 l0 x36_2) x46_3).f2), .bool ((rd_T92 (rd_L5 l0 x36_2) x46_3).f3)] 92 (0, 0))) := ⟨by (with_reducible repeat (first | refine blk_drewN ?_ _ | refine blk_drew ?_ | refine blk_alloc ?_ _)); refine blk_put (cs := #[.int .i64 ((rd_T92 (rd_L5 l0 x36_2) x46_3).f0), .int .i64 ((rd_T92 (rd_L5 l0 x36_2) x46_3).f1), .int .i64 ((rd_T92 (rd_L5 l0 x36_2) x46_3).f2), .bool false]) ?_ 3 _ rfl; (with_reducible repeat (first | refine blk_drewN ?_ _ | refine blk_drew ?_ | refine blk_alloc ?_ _)); refine blk_put (cs := #[.int .i64 ((rd_T92 (rd_L5 l0 x36_2) x46_3).f0), .int .i64 ((rd_T92 (rd_L5 l0 x36_2) x46_3).f1), .int .i64 0, .bool false]) ?_ 2 _ rfl; (with_reducible repeat (first | refine blk_drewN ?_ _ | refine blk_drew ?_ | refine blk_alloc ?_ _)); refine blk_put (cs := #[.int .i64 ((rd_T92 (rd_L5 l0 x36_2) x46_3).f0), .int .i64 0, .int .i64 0, .bool false]) ?_ 1 _ rfl; (with_reducible repeat (first | refine blk_drewN ?_ _ | refine blk_drew ?_ | refine blk_alloc ?_ _)); refine blk_put (cs := #[.int .i64 0, .int .i64 0, .int .i64 0, .bool false]) ?_ 0 _ rfl; (with_reducible repeat (first | refine blk_drewN ?_ _ | refine blk_drew ?_ | refine blk_alloc ?_ _)); exact BK204.out⟩
                                            have n3_ : Aside0 (Below w.heap.size w ((((w40.setCell ⟨gb204, 0, none⟩ (.int .i64 ((rd_T92 (rd_L5 l0 x36_2) x46_3).f0))).setCell ⟨gb204, 1, none⟩ (.int .i64 ((rd_T92 (rd_L5 l0 x36_2) x46_3).f1))).setCell ⟨gb204, 2, none⟩ (.int .i64 ((rd_T92 (rd_L5 l0 x36_2) x46_3).f2))).setCell ⟨gb204, 3, none⟩ (.bool ((rd_T92 (rd_L5 l0 x36_2) x46_3).f3)))) := ⟨by repeat (first | (with_reducible first | exact HB.out | apply below_alloc | apply pw_below_drewN | apply below_drew1 | refine below_set ?_ GE204.out) | exact HB.out)⟩
                                            (try clear HO_12)
                                            (try clear HO_13)
                                            (try clear BK204)
                                            (try clear HB)
                                            generalize ((((w40.setCell ⟨gb204, 0, none⟩ (.int .i64 ((rd_T92 (rd_L5 l0 x36_2) x46_3).f0))).setCell ⟨gb204, 1, none⟩ (.int .i64 ((rd_T92 (rd_L5 l0 x36_2) x46_3).f1))).setCell ⟨gb204, 2, none⟩ (.int .i64 ((rd_T92 (rd_L5 l0 x36_2) x46_3).f2))).setCell ⟨gb204, 3, none⟩ (.bool ((rd_T92 (rd_L5 l0 x36_2) x46_3).f3))) = w42 at n0_ n1_ n2_ n3_ ⊢
                                            have HO_12 := n0_
                                            have HO_13 := n1_
                                            have BK204 := n2_
                                            have HB := n3_
                                            clear n0_ n1_ n2_ n3_
                                            have n0_ := Aside0.mk (Kd.R_drew HO_12.out)
                                            have n1_ := Aside0.mk (Kd.R_drew HO_13.out)
                                            have n2_ := Aside0.mk (blk_drew BK204.out)
                                            have n3_ := Aside0.mk (below_drew1 HB.out)
                                            clear HO_12
                                            clear HO_13
                                            clear BK204
                                            clear HB
                                            have HO_12 := n0_
                                            have HO_13 := n1_
                                            have BK204 := n2_
                                            have HB := n3_
                                            clear n0_ n1_ n2_ n3_
                                            obtain ⟨Ao44, co44, eo44⟩ := Kd.R_slice HO_12.out
                                            (first | subst eo44 | (injection eo44 with f1_ f2_ f3_; have f4_ := f1_.symm; have f5_ := f3_.symm; clear f1_ f2_ f3_; subst f4_; subst f5_))
                                            have p205 : 0 ≤ (((rd_T92 (rd_L5 l0 x36_2) x46_3).f0) : Int) := of_decide_eq_true (by first | (with_reducible assumption) | assumption)
                                            have q205 : ((rd_T92 (rd_L5 l0 x36_2) x46_3).f0) < (x12_3.length : Int) := of_decide_eq_true (by first | (with_reducible assumption) | assumption)
                                            obtain ⟨ad205, e205, hx205_0⟩ := Kd.at_int (Kd.R_reads' HO_12.out).2.2 ((rd_T92 (rd_L5 l0 x36_2) x46_3).f0) p205 q205
                                            cases e205
                                            replace p205 := eq_true p205
                                            replace q205 := eq_true q205
                                            have p206 : 0 ≤ (((rd_T92 (rd_L5 l0 x36_2) x46_3).f0) : Int) := of_decide_eq_true (by first | (with_reducible assumption) | assumption)
                                            have q206 : ((rd_T92 (rd_L5 l0 x36_2) x46_3).f0) < (l3.length : Int) := of_decide_eq_true (by first | (with_reducible assumption) | assumption)
                                            obtain ⟨ad206, e206, hx206_0⟩ := Kd.at_int HR3.out ((rd_T92 (rd_L5 l0 x36_2) x46_3).f0) p206 q206
                                            have hw206_0 := hx206_0
                                            cases e206
                                            replace hx206_0 := (HB.out.cell (World.block_lt_of_cell? w _ hx206_0)).trans hx206_0
                                            replace p206 := eq_true p206
                                            replace q206 := eq_true q206
                                            have p32 : 0 ≤ (((rd_T92 (rd_L5 l0 x36_2) x46_3).f0) : Int) := of_decide_eq_true (by first | (with_reducible assumption) | assumption)
                                            have q32 : (((rd_T92 (rd_L5 l0 x36_2) x46_3).f0) : Int) < ((x12_3.length : Int) : Int) := of_decide_eq_true (by first | (with_reducible assumption) | assumption)
                                            obtain ⟨go32, co32, eo32, gb32, gl32, cl32, HG32⟩ := Kd.R_form HO_12.out (by omega)
                                            (first | cases eo32 | (injection eo32 with ea_ en_ ec_; (first | subst ea_ | (injection ea_ with ea_; subst ea_)); subst ec_; clear en_))
                                            have GB32 := Aside0.mk gb32
                                            have GG32 := Aside0.mk HG32
                                            clear gb32 gl32 HG32
                                            (first | simp only [add_plain] at hx205_0 | skip)
                                            obtain ⟨hx32_0, hf32_0⟩ := Kd.R_celln 0 HO_12.out (((rd_T92 (rd_L5 l0 x36_2) x46_3).f0) : Int) p32 q32
                                            replace p32 := eq_true p32
                                            replace q32 := eq_true q32
                                            have HP45 := Kd.R_putn HO_12.out (((rd_T92 (rd_L5 l0 x36_2) x46_3).f0) : Int) (wrap64 ((rd x12_3 ((rd_T92 (rd_L5 l0 x36_2) x46_3).f0)) + (rd l3 ((rd_T92 (rd_L5 l0 x36_2) x46_3).f0))))
                                            rw [← Ny207.out] at HP45
                                            have HQ45 := Aside0.mk HP45
                                            clear HP45
                                            refine start_ (n := 13) (S := fun w' => w'.cell? ⟨gb204, 0, none⟩ = some (.int .i64 ((rd_T92 (rd_L5 l0 x36_2) x46_3).f0)) ∧ w'.cell? ⟨gb204, 1, none⟩ = some (.int .i64 ((rd_T92 (rd_L5 l0 x36_2) x46_3).f1)) ∧ w'.cell? ⟨gb204, 2, none⟩ = some (.int .i64 ((rd_T92 (rd_L5 l0 x36_2) x46_3).f2)) ∧ w'.cell? ⟨gb204, 3, none⟩ = some (.bool ((rd_T92 (rd_L5 l0 x36_2) x46_3).f3)) ∧ w'.cell? ⟨go32, (((rd_T92 (rd_L5 l0 x36_2) x46_3).f0)).toNat, none⟩ = some (.int .i64 (rd x12_3 ((rd_T92 (rd_L5 l0 x36_2) x46_3).f0))) ∧ w'.cell? (ad206.add (((rd_T92 (rd_L5 l0 x36_2) x46_3).f0)).toNat) = some (.int .i64 (rd l3 ((rd_T92 (rd_L5 l0 x36_2) x46_3).f0)))) (ds := [12]) #[false, false, false, false, false, false, false, false, false, false, false, false, false] (by kernel_rfl) rfl rfl ⟨(blk_cell BK204.out 0).trans rfl, (blk_cell BK204.out 1).trans rfl, (blk_cell BK204.out 2).trans rfl, (blk_cell BK204.out 3).trans rfl, hx205_0, ((HB.out.cell (World.block_lt_of_cell? w _ hw206_0)).trans hw206_0)⟩ (fun hHeld => ?_); refine with_tabW impl_Finish.tab12 impl_Finish.bits12 (fun HT_ HW_ => ?_)
                                            generalize w42.drew = w43 at HO_12 HO_13 BK204 HB GG32 HQ45 hf32_0 hx205_0 hx206_0 hx32_0 hHeld ⊢
                                            refine pure_ (i := 0) (N := some 50) (v := ?_) (a' := ?_) #[true, false, false, false, false, false, false, false, false, false, false, false, false] rfl rfl (any_of HT_.out (by kernel_rfl)) (fun _ _ _ h => h) (Or.inl ⟨by rfl, ?_⟩) ?_ ?_
                                            rotate_left
                                            · intro w'
                                              go_simp
                                              with_reducible rfl
                                            rotate_left
                                            · simp only [Act.put, List.setIfInBounds_toArray, List.set_cons_zero, List.set_cons_succ, i64_w, i32_w]
                                              rfl
                                            refine pure_ (i := 1) (N := some 51) (v := ?_) (a' := ?_) #[true, true, false, false, false, false, false, false, false, false, false, false, false] rfl rfl (any_of HT_.out (by kernel_rfl)) (fun _ _ _ h => h) (Or.inl ⟨by rfl, ?_⟩) ?_ ?_
                                            rotate_left
                                            · intro w'
                                              go_simp
                                              with_reducible rfl
                                            rotate_left
                                            · simp only [Act.put, List.setIfInBounds_toArray, List.set_cons_zero, List.set_cons_succ, i64_w, i32_w]
                                              rfl
                                            refine pure_ (i := 5) (N := some 55) (v := ?_) (a' := ?_) #[true, true, false, false, false, true, false, false, false, false, false, false, false] rfl rfl (any_of HT_.out (by kernel_rfl)) (fun _ _ _ h => h) (Or.inl ⟨by rfl, ?_⟩) ?_ ?_
                                            rotate_left
                                            · intro w'
                                              go_simp
                                              with_reducible rfl
                                            rotate_left
                                            · simp only [Act.put, List.setIfInBounds_toArray, List.set_cons_zero, List.set_cons_succ, i64_w, i32_w]
                                              rfl
                                            refine pure_ (i := 6) (N := some 56) (v := ?_) (a' := ?_) #[true, true, false, false, false, true, true, false, false, false, false, false, false] rfl rfl (any_of HT_.out (by kernel_rfl)) (fun _ _ _ h => h) (Or.inl ⟨by rfl, ?_⟩) ?_ ?_
                                            rotate_left
                                            · intro w'
                                              go_simp
                                              with_reducible rfl
                                            rotate_left
                                            · simp only [Act.put, List.setIfInBounds_toArray, List.set_cons_zero, List.set_cons_succ, i64_w, i32_w]
                                              rfl
                                            refine take_ (i := 2) (N := some 52) (v := ?_) (a' := ?_) #[true, true, true, false, false, true, true, false, false, false, false, false, false] rfl rfl (take_ofW HT_.out HW_.out (by kernel_rfl)) (fun _ _ _ h => h) (Or.inl ⟨by rfl, ?_⟩) hHeld ?_ ?_
                                            rotate_left
                                            · rintro w' ⟨s0, s1, s2, s3, s4, s5⟩
                                              go_simp
                                              with_reducible rfl
                                            rotate_left
                                            · simp only [Act.put, List.setIfInBounds_toArray, List.set_cons_zero, List.set_cons_succ, i64_w, i32_w]
                                              rfl
                                            refine pure_ (i := 3) (N := some 53) (v := ?_) (a' := ?_) #[true, true, true, true, false, true, true, false, false, false, false, false, false] rfl rfl (any_of HT_.out (by kernel_rfl)) (fun _ _ _ h => h) (Or.inl ⟨by rfl, ?_⟩) ?_ ?_
                                            rotate_left
                                            · intro w'
                                              go_simp
                                              with_reducible rfl
                                            rotate_left
                                            · simp only [Act.put, List.setIfInBounds_toArray, List.set_cons_zero, List.set_cons_succ, i64_w, i32_w]
                                              rfl
                                            refine take_ (i := 4) (N := some 54) (v := ?_) (a' := ?_) #[true, true, true, true, true, true, true, false, false, false, false, false, false] rfl rfl (take_ofW HT_.out HW_.out (by kernel_rfl)) (fun _ _ _ h => h) (Or.inl ⟨by rfl, ?_⟩) hHeld ?_ ?_
                                            rotate_left
                                            · rintro w' ⟨s0, s1, s2, s3, s4, s5⟩
                                              go_simp
                                              with_reducible rfl
                                            rotate_left
                                            · simp only [Act.put, List.setIfInBounds_toArray, List.set_cons_zero, List.set_cons_succ, i64_w, i32_w]
                                              rfl
                                            refine take_ (i := 7) (N := some 57) (v := ?_) (a' := ?_) #[true, true, true, true, true, true, true, true, false, false, false, false, false] rfl rfl (take_ofW HT_.out HW_.out (by kernel_rfl)) (fun _ _ _ h => h) (Or.inl ⟨by rfl, ?_⟩) hHeld ?_ ?_
                                            rotate_left
                                            · rintro w' ⟨s0, s1, s2, s3, s4, s5⟩
                                              go_simp
                                              with_reducible rfl
                                            rotate_left
                                            · simp only [Act.put, List.setIfInBounds_toArray, List.set_cons_zero, List.set_cons_succ, i64_w, i32_w]
                                              rfl
                                            refine pure_ (i := 8) (N := some 58) (v := ?_) (a' := ?_) #[true, true, true, true, true, true, true, true, true, false, false, false, false] rfl rfl (any_of HT_.out (by kernel_rfl)) (fun _ _ _ h => h) (Or.inl ⟨by rfl, ?_⟩) ?_ ?_
                                            rotate_left
                                            · intro w'
                                              go_simp
                                              with_reducible rfl
                                            rotate_left
                                            · simp only [Act.put, List.setIfInBounds_toArray, List.set_cons_zero, List.set_cons_succ, i64_w, i32_w]
                                              rfl
                                            refine take_ (i := 9) (N := some 59) (v := ?_) (a' := ?_) #[true, true, true, true, true, true, true, true, true, true, false, false, false] rfl rfl (take_ofW HT_.out HW_.out (by kernel_rfl)) (fun _ _ _ h => h) (Or.inl ⟨by rfl, ?_⟩) hHeld ?_ ?_
                                            rotate_left
                                            · rintro w' ⟨s0, s1, s2, s3, s4, s5⟩
                                              go_simp
                                              with_reducible rfl
                                            rotate_left
                                            · simp only [Act.put, List.setIfInBounds_toArray, List.set_cons_zero, List.set_cons_succ, i64_w, i32_w]
                                              rfl
                                            refine pure_ (i := 10) (N := some 60) (v := ?_) (a' := ?_) #[true, true, true, true, true, true, true, true, true, true, true, false, false] rfl rfl (any_of HT_.out (by kernel_rfl)) (fun _ _ _ h => h) (Or.inl ⟨by rfl, ?_⟩) ?_ ?_
                                            rotate_left
                                            · intro w'
                                              go_simp
                                              with_reducible rfl
                                            rotate_left
                                            · simp only [Act.put, List.setIfInBounds_toArray, List.set_cons_zero, List.set_cons_succ, i64_w, i32_w]
                                              rfl
                                            refine pure_ (i := 11) (N := some 61) (v := ?_) (a' := ?_) #[true, true, true, true, true, true, true, true, true, true, true, true, false] rfl rfl (any_of HT_.out (by kernel_rfl)) (fun _ _ _ h => h) (Or.inl ⟨by rfl, ?_⟩) ?_ ?_
                                            rotate_left
                                            · intro w'
                                              go_simp
                                              with_reducible rfl
                                            rotate_left
                                            · simp only [Act.put, List.setIfInBounds_toArray, List.set_cons_zero, List.set_cons_succ, i64_w, i32_w]
                                              rfl
                                            refine last_ (i := 12) (N := none) #[true, true, true, true, true, true, true, true, true, true, true, true, true] rfl rfl (one_of HT_.out (by kernel_rfl)) (by decide) (fun K hK => ?_)
                                            refine skip_ (w1 := ?_) (by rfl) rfl ?_ ?_
                                            rotate_left
                                            · go_simp
                                              rfl
                                            refine hK.out _ _ ?_
                                            clear hK K
                                            refine done_ (done_of HT_.out (by kernel_rfl)) ?_
                                            try go_wp2
                                            have n0_ : Aside0 (Kd.R (Kd.int .i64) 3 (w43.setCell ⟨go32, (((rd_T92 (rd_L5 l0 x36_2) x46_3).f0) : Int).toNat, none⟩ (.int .i64 (wrap64 ((rd x12_3 ((rd_T92 (rd_L5 l0 x36_2) x46_3).f0)) + (rd l3 ((rd_T92 (rd_L5 l0 x36_2) x46_3).f0)))))) w.heap.size (fun k_ => some k_ ≠ (v201 : Value).ownBlock) (.slice (some ⟨go32, 0, none⟩) x12_3.length co44) y207) := ⟨by (with_reducible repeat (first | apply Kd.R_alloc | apply Kd.R_drewN | apply Kd.R_drew)); exact HQ45.out⟩
                                            have n1_ : Aside0 (Kd.R (Kd.int .i64) 3 (w43.setCell ⟨go32, (((rd_T92 (rd_L5 l0 x36_2) x46_3).f0) : Int).toNat, none⟩ (.int .i64 (wrap64 ((rd x12_3 ((rd_T92 (rd_L5 l0 x36_2) x46_3).f0)) + (rd l3 ((rd_T92 (rd_L5 l0 x36_2) x46_3).f0)))))) w.heap.size (fun k_ => some k_ ≠ (.slice (some ⟨go32, 0, none⟩) x12_3.length co44 : Value).ownBlock) v201 x13_3) := ⟨by (with_reducible repeat (first | apply Kd.R_alloc | apply Kd.R_drewN | apply Kd.R_drew)); exact Kd.R_mono (Kd.R_far (p := ⟨go32, (((rd_T92 (rd_L5 l0 x36_2) x46_3).f0) : Int).toNat, none⟩) (Kd.R_mono HO_13.out (fun k_ hk => (⟨hk, fun e_ => hk (by rw [e_]; rfl)⟩ : _ ∧ k_ ≠ go32))) (fun _ hk => hk.2) (.int .i64 (wrap64 ((rd x12_3 ((rd_T92 (rd_L5 l0 x36_2) x46_3).f0)) + (rd l3 ((rd_T92 (rd_L5 l0 x36_2) x46_3).f0)))))) (fun _ hk => hk.1)⟩
                                            have n2_ : Aside0 ((w43.setCell ⟨go32, (((rd_T92 (rd_L5 l0 x36_2) x46_3).f0) : Int).toNat, none⟩ (.int .i64 (wrap64 ((rd x12_3 ((rd_T92 (rd_L5 l0 x36_2) x46_3).f0)) + (rd l3 ((rd_T92 (rd_L5 l0 x36_2) x46_3).f0)))))).heap[gb204]? = some (.cells #[.int .i64 ((rd_T92 (rd_L5 l0 x36_2) x46_3).f0), .int .i64 ((rd_T92 (rd_L5 l0 x36_2) x46_3).f1), .int .i64 ((rd_T92 (rd_L5 l0 x36_2) x46_3).f2), .bool ((rd_T92 (rd_L5 l0 x36_2) x46_3).f3)] 92 (0, 0))) := ⟨by (with_reducible repeat (first | refine blk_drewN ?_ _ | refine blk_drew ?_ | refine blk_alloc ?_ _)); refine blk_far ?_ (by have h_ := Kd.R_ne HO_12.out BK204.out (by decide); intro e_; exact h_ (by rw [e_]; rfl)) _; (with_reducible repeat (first | refine blk_drewN ?_ _ | refine blk_drew ?_ | refine blk_alloc ?_ _)); exact BK204.out⟩
                                            have n3_ : Aside0 (Below w.heap.size w (w43.setCell ⟨go32, (((rd_T92 (rd_L5 l0 x36_2) x46_3).f0) : Int).toNat, none⟩ (.int .i64 (wrap64 ((rd x12_3 ((rd_T92 (rd_L5 l0 x36_2) x46_3).f0)) + (rd l3 ((rd_T92 (rd_L5 l0 x36_2) x46_3).f0))))))) := ⟨by repeat (first | (with_reducible first | exact HB.out | apply below_alloc | apply pw_below_drewN | apply below_drew1 | refine below_set ?_ GB32.out | refine below_set ?_ GE204.out) | exact HB.out)⟩
                                            (try clear HO_12)
                                            (try clear HO_13)
                                            (try clear BK204)
                                            (try clear HB)
                                            generalize (w43.setCell ⟨go32, (((rd_T92 (rd_L5 l0 x36_2) x46_3).f0) : Int).toNat, none⟩ (.int .i64 (wrap64 ((rd x12_3 ((rd_T92 (rd_L5 l0 x36_2) x46_3).f0)) + (rd l3 ((rd_T92 (rd_L5 l0 x36_2) x46_3).f0)))))) = w46 at n0_ n1_ n2_ n3_ ⊢
                                            have HO_12 := n0_
                                            have HO_13 := n1_
                                            have BK204 := n2_
                                            have HB := n3_
                                            clear n0_ n1_ n2_ n3_
                                            have n0_ := Aside0.mk (Kd.R_drew HO_12.out)
                                            have n1_ := Aside0.mk (Kd.R_drew HO_13.out)
                                            have n2_ := Aside0.mk (blk_drew BK204.out)
                                            have n3_ := Aside0.mk (below_drew1 HB.out)
                                            clear HO_12
                                            clear HO_13
                                            clear BK204
                                            clear HB
                                            have HO_12 := n0_
                                            have HO_13 := n1_
                                            have BK204 := n2_
                                            have HB := n3_
                                            clear n0_ n1_ n2_ n3_
                                            obtain ⟨Ao48, co48, eo48⟩ := Kd.R_slice HO_13.out
                                            (first | subst eo48 | (injection eo48 with f1_ f2_ f3_; have f4_ := f1_.symm; have f5_ := f3_.symm; clear f1_ f2_ f3_; subst f4_; subst f5_))
                                            have p208 : 0 ≤ (((rd_T92 (rd_L5 l0 x36_2) x46_3).f0) : Int) := of_decide_eq_true (by first | (with_reducible assumption) | assumption)
                                            have q208 : ((rd_T92 (rd_L5 l0 x36_2) x46_3).f0) < (x13_3.length : Int) := of_decide_eq_true (by first | (with_reducible assumption) | assumption)
                                            obtain ⟨ad208, e208, hx208_0⟩ := Kd.at_int (Kd.R_reads' HO_13.out).2.2 ((rd_T92 (rd_L5 l0 x36_2) x46_3).f0) p208 q208
                                            cases e208
                                            replace p208 := eq_true p208
                                            replace q208 := eq_true q208
                                            have p209 : 0 ≤ (((rd_T92 (rd_L5 l0 x36_2) x46_3).f0) : Int) := of_decide_eq_true (by first | (with_reducible assumption) | assumption)
                                            have q209 : ((rd_T92 (rd_L5 l0 x36_2) x46_3).f0) < (y207.length : Int) := (by have h_ : (((rd_T92 (rd_L5 l0 x36_2) x46_3).f0) : Int) < ((x12_3.length : Int) : Int) := of_decide_eq_true (by first | (with_reducible assumption) | assumption); first | (have e_ := (Kd.R_reads' HO_12.out).1; omega) | simpa only [Ny207.out, List.length_set] using h_)
                                            have ql209 : ((((rd_T92 (rd_L5 l0 x36_2) x46_3).f0) : Int) < ((x12_3.length : Int) : Int)) = True := eq_true (of_decide_eq_true (by first | (with_reducible assumption) | assumption))
                                            obtain ⟨ad209, e209, hx209_0⟩ := Kd.at_int (Kd.R_reads' HO_12.out).2.2 ((rd_T92 (rd_L5 l0 x36_2) x46_3).f0) p209 q209
                                            obtain rfl : (⟨go32, 0, none⟩ : Addr) = ad209 := (by injection e209)
                                            (first | simp only [add_plain] at hx209_0 | simp only [add_at] at hx209_0 | simp only [Addr.add, Nat.zero_add] at hx209_0 | skip)
                                            replace p209 := eq_true p209
                                            replace q209 := eq_true q209
                                            have p35 : 0 ≤ (((rd_T92 (rd_L5 l0 x36_2) x46_3).f0) : Int) := of_decide_eq_true (by first | (with_reducible assumption) | assumption)
                                            have q35 : (((rd_T92 (rd_L5 l0 x36_2) x46_3).f0) : Int) < ((x13_3.length : Int) : Int) := of_decide_eq_true (by first | (with_reducible assumption) | assumption)
                                            obtain ⟨go35, co35, eo35, gb35, gl35, cl35, HG35⟩ := Kd.R_form HO_13.out (by omega)
                                            (first | cases eo35 | (injection eo35 with ea_ en_ ec_; (first | subst ea_ | (injection ea_ with ea_; subst ea_)); subst ec_; clear en_))
                                            have GB35 := Aside0.mk gb35
                                            have GG35 := Aside0.mk HG35
                                            clear gb35 gl35 HG35
                                            (first | simp only [add_plain] at hx208_0 | skip)
                                            obtain ⟨hx35_0, hf35_0⟩ := Kd.R_celln 0 HO_13.out (((rd_T92 (rd_L5 l0 x36_2) x46_3).f0) : Int) p35 q35
                                            replace p35 := eq_true p35
                                            replace q35 := eq_true q35
                                            have HP49 := Kd.R_putn HO_13.out (((rd_T92 (rd_L5 l0 x36_2) x46_3).f0) : Int) ji34
                                            rw [← Ny210.out] at HP49
                                            have HQ49 := Aside0.mk HP49
                                            clear HP49
                                            refine start_ (n := 16) (S := fun w' => w'.cell? ⟨gb204, 0, none⟩ = some (.int .i64 ((rd_T92 (rd_L5 l0 x36_2) x46_3).f0)) ∧ w'.cell? ⟨gb204, 1, none⟩ = some (.int .i64 ((rd_T92 (rd_L5 l0 x36_2) x46_3).f1)) ∧ w'.cell? ⟨gb204, 2, none⟩ = some (.int .i64 ((rd_T92 (rd_L5 l0 x36_2) x46_3).f2)) ∧ w'.cell? ⟨gb204, 3, none⟩ = some (.bool ((rd_T92 (rd_L5 l0 x36_2) x46_3).f3)) ∧ w'.cell? ⟨go35, (((rd_T92 (rd_L5 l0 x36_2) x46_3).f0)).toNat, none⟩ = some (.int .i64 (rd x13_3 ((rd_T92 (rd_L5 l0 x36_2) x46_3).f0))) ∧ w'.cell? ⟨go32, (((rd_T92 (rd_L5 l0 x36_2) x46_3).f0)).toNat, none⟩ = some (.int .i64 (rd y207 ((rd_T92 (rd_L5 l0 x36_2) x46_3).f0)))) (ds := [15]) #[false, false, false, false, false, false, false, false, false, false, false, false, false, false, false, false] (by kernel_rfl) rfl rfl ⟨(blk_cell BK204.out 0).trans rfl, (blk_cell BK204.out 1).trans rfl, (blk_cell BK204.out 2).trans rfl, (blk_cell BK204.out 3).trans rfl, hx208_0, hx209_0⟩ (fun hHeld => ?_); refine with_tabW impl_Finish.tab13 impl_Finish.bits13 (fun HT_ HW_ => ?_)
                                            generalize w46.drew = w47 at HO_12 HO_13 BK204 HB GG35 HQ45 HQ49 hf35_0 hx208_0 hx209_0 hx35_0 hHeld ⊢
                                            refine pure_ (i := 0) (N := some 62) (v := ?_) (a' := ?_) #[true, false, false, false, false, false, false, false, false, false, false, false, false, false, false, false] rfl rfl (any_of HT_.out (by kernel_rfl)) (fun _ _ _ h => h) (Or.inl ⟨by rfl, ?_⟩) ?_ ?_
                                            rotate_left
                                            · intro w'
                                              go_simp
                                              with_reducible rfl
                                            rotate_left
                                            · simp only [Act.put, List.setIfInBounds_toArray, List.set_cons_zero, List.set_cons_succ, i64_w, i32_w]
                                              rfl
                                            refine pure_ (i := 1) (N := some 63) (v := ?_) (a' := ?_) #[true, true, false, false, false, false, false, false, false, false, false, false, false, false, false, false] rfl rfl (any_of HT_.out (by kernel_rfl)) (fun _ _ _ h => h) (Or.inl ⟨by rfl, ?_⟩) ?_ ?_
                                            rotate_left
                                            · intro w'
                                              go_simp
                                              with_reducible rfl
                                            rotate_left
                                            · simp only [Act.put, List.setIfInBounds_toArray, List.set_cons_zero, List.set_cons_succ, i64_w, i32_w]
                                              rfl
                                            refine pure_ (i := 3) (N := some 65) (v := ?_) (a' := ?_) #[true, true, false, true, false, false, false, false, false, false, false, false, false, false, false, false] rfl rfl (any_of HT_.out (by kernel_rfl)) (fun _ _ _ h => h) (Or.inl ⟨by rfl, ?_⟩) ?_ ?_
                                            rotate_left
                                            · intro w'
                                              go_simp
                                              with_reducible rfl
                                            rotate_left
                                            · simp only [Act.put, List.setIfInBounds_toArray, List.set_cons_zero, List.set_cons_succ, i64_w, i32_w]
                                              rfl
                                            refine pure_ (i := 4) (N := some 66) (v := ?_) (a' := ?_) #[true, true, false, true, true, false, false, false, false, false, false, false, false, false, false, false] rfl rfl (any_of HT_.out (by kernel_rfl)) (fun _ _ _ h => h) (Or.inl ⟨by rfl, ?_⟩) ?_ ?_
                                            rotate_left
                                            · intro w'
                                              go_simp
                                              with_reducible rfl
                                            rotate_left
                                            · simp only [Act.put, List.setIfInBounds_toArray, List.set_cons_zero, List.set_cons_succ, i64_w, i32_w]
                                              rfl
                                            refine pure_ (i := 8) (N := some 70) (v := ?_) (a' := ?_) #[true, true, false, true, true, false, false, false, true, false, false, false, false, false, false, false] rfl rfl (any_of HT_.out (by kernel_rfl)) (fun _ _ _ h => h) (Or.inl ⟨by rfl, ?_⟩) ?_ ?_
                                            rotate_left
                                            · intro w'
                                              go_simp
                                              with_reducible rfl
                                            rotate_left
                                            · simp only [Act.put, List.setIfInBounds_toArray, List.set_cons_zero, List.set_cons_succ, i64_w, i32_w]
                                              rfl
                                            refine pure_ (i := 9) (N := some 71) (v := ?_) (a' := ?_) #[true, true, false, true, true, false, false, false, true, true, false, false, false, false, false, false] rfl rfl (any_of HT_.out (by kernel_rfl)) (fun _ _ _ h => h) (Or.inl ⟨by rfl, ?_⟩) ?_ ?_
                                            rotate_left
                                            · intro w'
                                              go_simp
                                              with_reducible rfl
                                            rotate_left
                                            · simp only [Act.put, List.setIfInBounds_toArray, List.set_cons_zero, List.set_cons_succ, i64_w, i32_w]
                                              rfl
                                            refine take_ (i := 2) (N := some 64) (v := ?_) (a' := ?_) #[true, true, true, true, true, false, false, false, true, true, false, false, false, false, false, false] rfl rfl (take_ofW HT_.out HW_.out (by kernel_rfl)) (fun _ _ _ h => h) (Or.inl ⟨by rfl, ?_⟩) hHeld ?_ ?_
                                            rotate_left
                                            · rintro w' ⟨s0, s1, s2, s3, s4, s5⟩
                                              go_simp
                                              with_reducible rfl
                                            rotate_left
                                            · simp only [Act.put, List.setIfInBounds_toArray, List.set_cons_zero, List.set_cons_succ, i64_w, i32_w]
                                              rfl
                                            refine take_ (i := 5) (N := some 67) (v := ?_) (a' := ?_) #[true, true, true, true, true, true, false, false, true, true, false, false, false, false, false, false] rfl rfl (take_ofW HT_.out HW_.out (by kernel_rfl)) (fun _ _ _ h => h) (Or.inl ⟨by rfl, ?_⟩) hHeld ?_ ?_
                                            rotate_left
                                            · rintro w' ⟨s0, s1, s2, s3, s4, s5⟩
                                              go_simp
                                              with_reducible rfl
                                            rotate_left
                                            · simp only [Act.put, List.setIfInBounds_toArray, List.set_cons_zero, List.set_cons_succ, i64_w, i32_w]
                                              rfl
                                            refine pure_ (i := 6) (N := some 68) (v := ?_) (a' := ?_) #[true, true, true, true, true, true, true, false, true, true, false, false, false, false, false, false] rfl rfl (any_of HT_.out (by kernel_rfl)) (fun _ _ _ h => h) (Or.inl ⟨by rfl, ?_⟩) ?_ ?_
                                            rotate_left
                                            · intro w'
                                              go_simp
                                              with_reducible rfl
                                            rotate_left
                                            · simp only [Act.put, List.setIfInBounds_toArray, List.set_cons_zero, List.set_cons_succ, i64_w, i32_w]
                                              rfl
                                            refine take_ (i := 7) (N := some 69) (v := ?_) (a' := ?_) #[true, true, true, true, true, true, true, true, true, true, false, false, false, false, false, false] rfl rfl (take_ofW HT_.out HW_.out (by kernel_rfl)) (fun _ _ _ h => h) (Or.inl ⟨by rfl, ?_⟩) hHeld ?_ ?_
                                            rotate_left
                                            · rintro w' ⟨s0, s1, s2, s3, s4, s5⟩
                                              go_simp
                                              with_reducible rfl
                                            rotate_left
                                            · simp only [Act.put, List.setIfInBounds_toArray, List.set_cons_zero, List.set_cons_succ, i64_w, i32_w]
                                              rfl
                                            refine take_ (i := 10) (N := some 72) (v := ?_) (a' := ?_) #[true, true, true, true, true, true, true, true, true, true, true, false, false, false, false, false] rfl rfl (take_ofW HT_.out HW_.out (by kernel_rfl)) (fun _ _ _ h => h) (Or.inl ⟨by rfl, ?_⟩) hHeld ?_ ?_
                                            rotate_left
                                            · rintro w' ⟨s0, s1, s2, s3, s4, s5⟩
                                              go_simp
                                              with_reducible rfl
                                            rotate_left
                                            · simp only [Act.put, List.setIfInBounds_toArray, List.set_cons_zero, List.set_cons_succ, i64_w, i32_w]
                                              rfl
                                            refine pure_ (i := 11) (N := some 73) (v := ?_) (a' := ?_) #[true, true, true, true, true, true, true, true, true, true, true, true, false, false, false, false] rfl rfl (any_of HT_.out (by kernel_rfl)) (fun _ _ _ h => h) (Or.inl ⟨by rfl, ?_⟩) ?_ ?_
                                            rotate_left
                                            · intro w'
                                              go_simp
                                              with_reducible rfl
                                            rotate_left
                                            · simp only [Act.put, List.setIfInBounds_toArray, List.set_cons_zero, List.set_cons_succ, i64_w, i32_w]
                                              rfl
                                            refine take_ (i := 12) (N := some 74) (v := ?_) (a' := ?_) #[true, true, true, true, true, true, true, true, true, true, true, true, true, false, false, false] rfl rfl (take_ofW HT_.out HW_.out (by kernel_rfl)) (fun _ _ _ h => h) (Or.inl ⟨by rfl, ?_⟩) hHeld ?_ ?_
                                            rotate_left
                                            · rintro w' ⟨s0, s1, s2, s3, s4, s5⟩
                                              go_simp
                                              with_reducible rfl
                                            rotate_left
                                            · simp only [Act.put, List.setIfInBounds_toArray, List.set_cons_zero, List.set_cons_succ, i64_w, i32_w]
                                              rfl
                                            refine pure_ (i := 13) (N := some 75) (v := ?_) (a' := ?_) #[true, true, true, true, true, true, true, true, true, true, true, true, true, true, false, false] rfl rfl (any_of HT_.out (by kernel_rfl)) (fun _ _ _ h => h) (Or.inl ⟨by rfl, ?_⟩) ?_ ?_
                                            rotate_left
                                            · intro w'
                                              go_simp
                                              with_reducible rfl
                                            rotate_left
                                            · simp only [Act.put, List.setIfInBounds_toArray, List.set_cons_zero, List.set_cons_succ, i64_w, i32_w]
                                              rfl
                                            refine pure_ (i := 14) (N := some 76) (v := ?_) (a' := ?_) #[true, true, true, true, true, true, true, true, true, true, true, true, true, true, true, false] rfl rfl (any_of HT_.out (by kernel_rfl)) (fun _ _ _ h => h) (Or.inl ⟨by rfl, ?_⟩) ?_ ?_
                                            rotate_left
                                            · intro w'
                                              go_simp
                                              with_reducible rfl
                                            rotate_left
                                            · simp only [Act.put, List.setIfInBounds_toArray, List.set_cons_zero, List.set_cons_succ, i64_w, i32_w]
                                              rfl
                                            refine last_ (i := 15) (N := none) #[true, true, true, true, true, true, true, true, true, true, true, true, true, true, true, true] rfl rfl (one_of HT_.out (by kernel_rfl)) (by decide) (fun K hK => ?_)
                                            refine skip_ (w1 := ?_) (by rfl) rfl ?_ ?_
                                            rotate_left
                                            · go_simp
                                              rfl
                                            refine hK.out _ _ ?_
                                            clear hK K
                                            refine done_ (done_of HT_.out (by kernel_rfl)) ?_
                                            try go_wp2
                                            have n0_ : Aside0 (Kd.R (Kd.int .i64) 3 (w47.setCell ⟨go35, (((rd_T92 (rd_L5 l0 x36_2) x46_3).f0) : Int).toNat, none⟩ (.int .i64 ji34)) w.heap.size (fun k_ => some k_ ≠ (.slice (some ⟨go35, 0, none⟩) x13_3.length co48 : Value).ownBlock) (.slice (some ⟨go32, 0, none⟩) x12_3.length co44) y207) := ⟨by (with_reducible repeat (first | apply Kd.R_alloc | apply Kd.R_drewN | apply Kd.R_drew)); exact Kd.R_mono (Kd.R_far (p := ⟨go35, (((rd_T92 (rd_L5 l0 x36_2) x46_3).f0) : Int).toNat, none⟩) (Kd.R_mono HO_12.out (fun k_ hk => (⟨hk, fun e_ => hk (by rw [e_]; rfl)⟩ : _ ∧ k_ ≠ go35))) (fun _ hk => hk.2) (.int .i64 ji34)) (fun _ hk => hk.1)⟩
                                            have n1_ : Aside0 (Kd.R (Kd.int .i64) 3 (w47.setCell ⟨go35, (((rd_T92 (rd_L5 l0 x36_2) x46_3).f0) : Int).toNat, none⟩ (.int .i64 ji34)) w.heap.size (fun k_ => some k_ ≠ (.slice (some ⟨go32, 0, none⟩) x12_3.length co44 : Value).ownBlock) (.slice (some ⟨go35, 0, none⟩) x13_3.length co48) y210) := ⟨by (with_reducible repeat (first | apply Kd.R_alloc | apply Kd.R_drewN | apply Kd.R_drew)); exact HQ49.out⟩
                                            have n2_ : Aside0 ((w47.setCell ⟨go35, (((rd_T92 (rd_L5 l0 x36_2) x46_3).f0) : Int).toNat, none⟩ (.int .i64 ji34)).heap[gb204]? = some (.cells #[.int .i64 ((rd_T92 (rd_L5 l0 x36_2) x46_3).f0), .int .i64 ((rd_T92 (rd_L5 l0 x36_2) x46_3).f1), .int .i64 ((rd_T92 (rd_L5 l0 x36_2) x46_3).f2), .bool ((rd_T92 (rd_L5 l0 x36_2) x46_3).f3)] 92 (0, 0))) := ⟨by (with_reducible repeat (first | refine blk_drewN ?_ _ | refine blk_drew ?_ | refine blk_alloc ?_ _)); refine blk_far ?_ (by have h_ := Kd.R_ne HO_13.out BK204.out (by decide); intro e_; exact h_ (by rw [e_]; rfl)) _; (with_reducible repeat (first | refine blk_drewN ?_ _ | refine blk_drew ?_ | refine blk_alloc ?_ _)); exact BK204.out⟩
                                            have n3_ : Aside0 (Below w.heap.size w (w47.setCell ⟨go35, (((rd_T92 (rd_L5 l0 x36_2) x46_3).f0) : Int).toNat, none⟩ (.int .i64 ji34))) := ⟨by repeat (first | (with_reducible first | exact HB.out | apply below_alloc | apply pw_below_drewN | apply below_drew1 | refine below_set ?_ GB35.out | refine below_set ?_ GE204.out) | exact HB.out)⟩
                                            (try clear HO_12)
                                            (try clear HO_13)
                                            (try clear BK204)
                                            (try clear HB)
                                            generalize (w47.setCell ⟨go35, (((rd_T92 (rd_L5 l0 x36_2) x46_3).f0) : Int).toNat, none⟩ (.int .i64 ji34)) = w50 at n0_ n1_ n2_ n3_ ⊢
                                            have HO_12 := n0_
                                            have HO_13 := n1_
                                            have BK204 := n2_
                                            have HB := n3_
                                            clear n0_ n1_ n2_ n3_
                                            have n0_ := Aside0.mk (Kd.R_drew HO_12.out)
                                            have n1_ := Aside0.mk (Kd.R_drew HO_13.out)
                                            have n2_ := Aside0.mk (blk_drew BK204.out)
                                            have n3_ := Aside0.mk (below_drew1 HB.out)
                                            clear HO_12
                                            clear HO_13
                                            clear BK204
                                            clear HB
                                            have HO_12 := n0_
                                            have HO_13 := n1_
                                            have BK204 := n2_
                                            have HB := n3_
                                            clear n0_ n1_ n2_ n3_
                                            have p211 : 0 ≤ (((rd_T92 (rd_L5 l0 x36_2) x46_3).f1) : Int) := of_decide_eq_true (by first | (with_reducible assumption) | assumption)
                                            have q211 : ((rd_T92 (rd_L5 l0 x36_2) x46_3).f1) < (y210.length : Int) := (by have h_ : (((rd_T92 (rd_L5 l0 x36_2) x46_3).f1) : Int) < ((x13_3.length : Int) : Int) := of_decide_eq_true (by first | (with_reducible assumption) | assumption); first | (have e_ := (Kd.R_reads' HO_13.out).1; omega) | simpa only [Ny210.out, List.length_set] using h_)
                                            have ql211 : ((((rd_T92 (rd_L5 l0 x36_2) x46_3).f1) : Int) < ((x13_3.length : Int) : Int)) = True := eq_true (of_decide_eq_true (by first | (with_reducible assumption) | assumption))
                                            obtain ⟨ad211, e211, hx211_0⟩ := Kd.at_int (Kd.R_reads' HO_13.out).2.2 ((rd_T92 (rd_L5 l0 x36_2) x46_3).f1) p211 q211
                                            obtain rfl : (⟨go35, 0, none⟩ : Addr) = ad211 := (by injection e211)
                                            (first | simp only [add_plain] at hx211_0 | simp only [add_at] at hx211_0 | simp only [Addr.add, Nat.zero_add] at hx211_0 | skip)
                                            replace p211 := eq_true p211
                                            replace q211 := eq_true q211
                                            have p212 : 0 ≤ (((rd_T92 (rd_L5 l0 x36_2) x46_3).f0) : Int) := of_decide_eq_true (by first | (with_reducible assumption) | assumption)
                                            have q212 : ((rd_T92 (rd_L5 l0 x36_2) x46_3).f0) < (y207.length : Int) := (by have h_ : (((rd_T92 (rd_L5 l0 x36_2) x46_3).f0) : Int) < ((x12_3.length : Int) : Int) := of_decide_eq_true (by first | (with_reducible assumption) | assumption); first | (have e_ := (Kd.R_reads' HO_12.out).1; omega) | simpa only [Ny207.out, List.length_set] using h_)
                                            have ql212 : ((((rd_T92 (rd_L5 l0 x36_2) x46_3).f0) : Int) < ((x12_3.length : Int) : Int)) = True := eq_true (of_decide_eq_true (by first | (with_reducible assumption) | assumption))
                                            obtain ⟨ad212, e212, hx212_0⟩ := Kd.at_int (Kd.R_reads' HO_12.out).2.2 ((rd_T92 (rd_L5 l0 x36_2) x46_3).f0) p212 q212
                                            obtain rfl : (⟨go32, 0, none⟩ : Addr) = ad212 := (by injection e212)
                                            (first | simp only [add_plain] at hx212_0 | simp only [add_at] at hx212_0 | simp only [Addr.add, Nat.zero_add] at hx212_0 | skip)
                                            replace p212 := eq_true p212
                                            replace q212 := eq_true q212
                                            have p39 : 0 ≤ (((rd_T92 (rd_L5 l0 x36_2) x46_3).f1) : Int) := of_decide_eq_true (by first | (with_reducible assumption) | assumption)
                                            have q39 : (((rd_T92 (rd_L5 l0 x36_2) x46_3).f1) : Int) < ((x13_3.length : Int) : Int) := of_decide_eq_true (by first | (with_reducible assumption) | assumption)
                                            obtain ⟨hx39_0, hf39_0⟩ := Kd.R_celln 0 HO_13.out (((rd_T92 (rd_L5 l0 x36_2) x46_3).f1) : Int) p39 q39
                                            replace p39 := eq_true p39
                                            replace q39 := eq_true q39
                                            have HP52 := Kd.R_putn HO_13.out (((rd_T92 (rd_L5 l0 x36_2) x46_3).f1) : Int) ji38
                                            rw [← Ny213.out] at HP52
                                            have HQ52 := Aside0.mk HP52
                                            clear HP52
                                            refine start_ (n := 16) (S := fun w' => w'.cell? ⟨gb204, 0, none⟩ = some (.int .i64 ((rd_T92 (rd_L5 l0 x36_2) x46_3).f0)) ∧ w'.cell? ⟨gb204, 1, none⟩ = some (.int .i64 ((rd_T92 (rd_L5 l0 x36_2) x46_3).f1)) ∧ w'.cell? ⟨gb204, 2, none⟩ = some (.int .i64 ((rd_T92 (rd_L5 l0 x36_2) x46_3).f2)) ∧ w'.cell? ⟨gb204, 3, none⟩ = some (.bool ((rd_T92 (rd_L5 l0 x36_2) x46_3).f3)) ∧ w'.cell? ⟨go35, (((rd_T92 (rd_L5 l0 x36_2) x46_3).f1)).toNat, none⟩ = some (.int .i64 (rd y210 ((rd_T92 (rd_L5 l0 x36_2) x46_3).f1))) ∧ w'.cell? ⟨go32, (((rd_T92 (rd_L5 l0 x36_2) x46_3).f0)).toNat, none⟩ = some (.int .i64 (rd y207 ((rd_T92 (rd_L5 l0 x36_2) x46_3).f0)))) (ds := [15]) #[false, false, false, false, false, false, false, false, false, false, false, false, false, false, false, false] (by kernel_rfl) rfl rfl ⟨(blk_cell BK204.out 0).trans rfl, (blk_cell BK204.out 1).trans rfl, (blk_cell BK204.out 2).trans rfl, (blk_cell BK204.out 3).trans rfl, hx211_0, hx212_0⟩ (fun hHeld => ?_); refine with_tabW impl_Finish.tab14 impl_Finish.bits14 (fun HT_ HW_ => ?_)
                                            generalize w50.drew = w51 at HO_12 HO_13 BK204 HB HQ49 HQ52 hf39_0 hx211_0 hx212_0 hx39_0 hHeld ⊢
                                            refine pure_ (i := 0) (N := some 77) (v := ?_) (a' := ?_) #[true, false, false, false, false, false, false, false, false, false, false, false, false, false, false, false] rfl rfl (any_of HT_.out (by kernel_rfl)) (fun _ _ _ h => h) (Or.inl ⟨by rfl, ?_⟩) ?_ ?_
                                            rotate_left
                                            · intro w'
                                              go_simp
                                              with_reducible rfl
                                            rotate_left
                                            · simp only [Act.put, List.setIfInBounds_toArray, List.set_cons_zero, List.set_cons_succ, i64_w, i32_w]
                                              rfl
                                            refine pure_ (i := 1) (N := some 78) (v := ?_) (a' := ?_) #[true, true, false, false, false, false, false, false, false, false, false, false, false, false, false, false] rfl rfl (any_of HT_.out (by kernel_rfl)) (fun _ _ _ h => h) (Or.inl ⟨by rfl, ?_⟩) ?_ ?_
                                            rotate_left
                                            · intro w'
                                              go_simp
                                              with_reducible rfl
                                            rotate_left
                                            · simp only [Act.put, List.setIfInBounds_toArray, List.set_cons_zero, List.set_cons_succ, i64_w, i32_w]
                                              rfl
                                            refine pure_ (i := 3) (N := some 80) (v := ?_) (a' := ?_) #[true, true, false, true, false, false, false, false, false, false, false, false, false, false, false, false] rfl rfl (any_of HT_.out (by kernel_rfl)) (fun _ _ _ h => h) (Or.inl ⟨by rfl, ?_⟩) ?_ ?_
                                            rotate_left
                                            · intro w'
                                              go_simp
                                              with_reducible rfl
                                            rotate_left
                                            · simp only [Act.put, List.setIfInBounds_toArray, List.set_cons_zero, List.set_cons_succ, i64_w, i32_w]
                                              rfl
                                            refine pure_ (i := 4) (N := some 81) (v := ?_) (a' := ?_) #[true, true, false, true, true, false, false, false, false, false, false, false, false, false, false, false] rfl rfl (any_of HT_.out (by kernel_rfl)) (fun _ _ _ h => h) (Or.inl ⟨by rfl, ?_⟩) ?_ ?_
                                            rotate_left
                                            · intro w'
                                              go_simp
                                              with_reducible rfl
                                            rotate_left
                                            · simp only [Act.put, List.setIfInBounds_toArray, List.set_cons_zero, List.set_cons_succ, i64_w, i32_w]
                                              rfl
                                            refine pure_ (i := 8) (N := some 85) (v := ?_) (a' := ?_) #[true, true, false, true, true, false, false, false, true, false, false, false, false, false, false, false] rfl rfl (any_of HT_.out (by kernel_rfl)) (fun _ _ _ h => h) (Or.inl ⟨by rfl, ?_⟩) ?_ ?_
                                            rotate_left
                                            · intro w'
                                              go_simp
                                              with_reducible rfl
                                            rotate_left
                                            · simp only [Act.put, List.setIfInBounds_toArray, List.set_cons_zero, List.set_cons_succ, i64_w, i32_w]
                                              rfl
                                            refine pure_ (i := 9) (N := some 86) (v := ?_) (a' := ?_) #[true, true, false, true, true, false, false, false, true, true, false, false, false, false, false, false] rfl rfl (any_of HT_.out (by kernel_rfl)) (fun _ _ _ h => h) (Or.inl ⟨by rfl, ?_⟩) ?_ ?_
                                            rotate_left
                                            · intro w'
                                              go_simp
                                              with_reducible rfl
                                            rotate_left
                                            · simp only [Act.put, List.setIfInBounds_toArray, List.set_cons_zero, List.set_cons_succ, i64_w, i32_w]
                                              rfl
                                            refine take_ (i := 2) (N := some 79) (v := ?_) (a' := ?_) #[true, true, true, true, true, false, false, false, true, true, false, false, false, false, false, false] rfl rfl (take_ofW HT_.out HW_.out (by kernel_rfl)) (fun _ _ _ h => h) (Or.inl ⟨by rfl, ?_⟩) hHeld ?_ ?_
                                            rotate_left
                                            · rintro w' ⟨s0, s1, s2, s3, s4, s5⟩
                                              go_simp
                                              with_reducible rfl
                                            rotate_left
                                            · simp only [Act.put, List.setIfInBounds_toArray, List.set_cons_zero, List.set_cons_succ, i64_w, i32_w]
                                              rfl
                                            refine take_ (i := 5) (N := some 82) (v := ?_) (a' := ?_) #[true, true, true, true, true, true, false, false, true, true, false, false, false, false, false, false] rfl rfl (take_ofW HT_.out HW_.out (by kernel_rfl)) (fun _ _ _ h => h) (Or.inl ⟨by rfl, ?_⟩) hHeld ?_ ?_
                                            rotate_left
                                            · rintro w' ⟨s0, s1, s2, s3, s4, s5⟩
                                              go_simp
                                              with_reducible rfl
                                            rotate_left
                                            · simp only [Act.put, List.setIfInBounds_toArray, List.set_cons_zero, List.set_cons_succ, i64_w, i32_w]
                                              rfl
                                            refine pure_ (i := 6) (N := some 83) (v := ?_) (a' := ?_) #[true, true, true, true, true, true, true, false, true, true, false, false, false, false, false, false] rfl rfl (any_of HT_.out (by kernel_rfl)) (fun _ _ _ h => h) (Or.inl ⟨by rfl, ?_⟩) ?_ ?_
                                            rotate_left
                                            · intro w'
                                              go_simp
                                              with_reducible rfl
                                            rotate_left
                                            · simp only [Act.put, List.setIfInBounds_toArray, List.set_cons_zero, List.set_cons_succ, i64_w, i32_w]
                                              rfl
                                            refine take_ (i := 7) (N := some 84) (v := ?_) (a' := ?_) #[true, true, true, true, true, true, true, true, true, true, false, false, false, false, false, false] rfl rfl (take_ofW HT_.out HW_.out (by kernel_rfl)) (fun _ _ _ h => h) (Or.inl ⟨by rfl, ?_⟩) hHeld ?_ ?_
                                            rotate_left
                                            · rintro w' ⟨s0, s1, s2, s3, s4, s5⟩
                                              go_simp
                                              with_reducible rfl
                                            rotate_left
                                            · simp only [Act.put, List.setIfInBounds_toArray, List.set_cons_zero, List.set_cons_succ, i64_w, i32_w]
                                              rfl
                                            refine take_ (i := 10) (N := some 87) (v := ?_) (a' := ?_) #[true, true, true, true, true, true, true, true, true, true, true, false, false, false, false, false] rfl rfl (take_ofW HT_.out HW_.out (by kernel_rfl)) (fun _ _ _ h => h) (Or.inl ⟨by rfl, ?_⟩) hHeld ?_ ?_
                                            rotate_left
                                            · rintro w' ⟨s0, s1, s2, s3, s4, s5⟩
                                              go_simp
                                              with_reducible rfl
                                            rotate_left
                                            · simp only [Act.put, List.setIfInBounds_toArray, List.set_cons_zero, List.set_cons_succ, i64_w, i32_w]
                                              rfl
                                            refine pure_ (i := 11) (N := some 88) (v := ?_) (a' := ?_) #[true, true, true, true, true, true, true, true, true, true, true, true, false, false, false, false] rfl rfl (any_of HT_.out (by kernel_rfl)) (fun _ _ _ h => h) (Or.inl ⟨by rfl, ?_⟩) ?_ ?_
                                            rotate_left
                                            · intro w'
                                              go_simp
                                              with_reducible rfl
                                            rotate_left
                                            · simp only [Act.put, List.setIfInBounds_toArray, List.set_cons_zero, List.set_cons_succ, i64_w, i32_w]
                                              rfl
                                            refine take_ (i := 12) (N := some 89) (v := ?_) (a' := ?_) #[true, true, true, true, true, true, true, true, true, true, true, true, true, false, false, false] rfl rfl (take_ofW HT_.out HW_.out (by kernel_rfl)) (fun _ _ _ h => h) (Or.inl ⟨by rfl, ?_⟩) hHeld ?_ ?_
                                            rotate_left
                                            · rintro w' ⟨s0, s1, s2, s3, s4, s5⟩
                                              go_simp
                                              with_reducible rfl
                                            rotate_left
                                            · simp only [Act.put, List.setIfInBounds_toArray, List.set_cons_zero, List.set_cons_succ, i64_w, i32_w]
                                              rfl
                                            refine pure_ (i := 13) (N := some 90) (v := ?_) (a' := ?_) #[true, true, true, true, true, true, true, true, true, true, true, true, true, true, false, false] rfl rfl (any_of HT_.out (by kernel_rfl)) (fun _ _ _ h => h) (Or.inl ⟨by rfl, ?_⟩) ?_ ?_
                                            rotate_left
                                            · intro w'
                                              go_simp
                                              with_reducible rfl
                                            rotate_left
                                            · simp only [Act.put, List.setIfInBounds_toArray, List.set_cons_zero, List.set_cons_succ, i64_w, i32_w]
                                              rfl
                                            refine pure_ (i := 14) (N := some 91) (v := ?_) (a' := ?_) #[true, true, true, true, true, true, true, true, true, true, true, true, true, true, true, false] rfl rfl (any_of HT_.out (by kernel_rfl)) (fun _ _ _ h => h) (Or.inl ⟨by rfl, ?_⟩) ?_ ?_
                                            rotate_left
                                            · intro w'
                                              go_simp
                                              with_reducible rfl
                                            rotate_left
                                            · simp only [Act.put, List.setIfInBounds_toArray, List.set_cons_zero, List.set_cons_succ, i64_w, i32_w]
                                              rfl
                                            refine last_ (i := 15) (N := none) #[true, true, true, true, true, true, true, true, true, true, true, true, true, true, true, true] rfl rfl (one_of HT_.out (by kernel_rfl)) (by decide) (fun K hK => ?_)
                                            refine skip_ (w1 := ?_) (by rfl) rfl ?_ ?_
                                            rotate_left
                                            · go_simp
                                              rfl
                                            refine hK.out _ _ ?_
                                            clear hK K
                                            refine done_ (done_of HT_.out (by kernel_rfl)) ?_
                                            try go_wp2
                                            go_roundg k3
                                            case measure => have := HJ4.out; have := HK2.out; have := HK3.out; omega
                                            case rel => exact ⟨(y207), (y213), (wrap64 (x46_3 + 1)), (by first | rfl | (simp; done) | (simp [*]; done)), H', ⟨by have := HJ4.out; have := HK2.out; have := HK3.out; omega⟩, ⟨by (with_reducible repeat (first | apply Kd.R_alloc | apply Kd.R_drewN | apply Kd.R_drew)); exact Kd.R_mono (Kd.R_far (p := ⟨go35, (((rd_T92 (rd_L5 l0 x36_2) x46_3).f1) : Int).toNat, none⟩) (Kd.R_mono HO_12.out (fun k_ hk => (⟨hk, fun e_ => hk (by rw [e_]; rfl)⟩ : _ ∧ k_ ≠ go35))) (fun _ hk => hk.2) (.int .i64 ji38)) (fun _ hk => hk.1)⟩, ⟨by (with_reducible repeat (first | apply Kd.R_alloc | apply Kd.R_drewN | apply Kd.R_drew)); exact HQ52.out⟩, ⟨by repeat (first | (with_reducible first | exact HB.out | apply below_alloc | apply pw_below_drewN | apply below_drew1 | refine below_set ?_ GB35.out | refine below_set ?_ GE204.out) | exact HB.out)⟩⟩
                                          · rw [if_neg c37] at H
                                            exact absurd H (by simp)
                                        · rw [if_neg c36] at H
                                          exact absurd H (by simp)
                                      · rw [if_neg c33] at H
                                        exact absurd H (by simp)
                                    · rw [if_neg c31] at H
                                      exact absurd H (by simp)
                                  · rw [if_neg c30] at H
                                    exact absurd H (by simp)
                                · rw [if_neg c29] at H
                                  exact absurd H (by simp)
                              · rw [if_neg c28] at H
                                exact absurd H (by simp)
                            · rw [if_neg c27] at H
                              exact absurd H (by simp)
                          · rw [if_neg c26] at H
                            have c26b0 : decide (x46_3 < ((rd_L5 l0 x36_2).length : Int)) = false := decide_eq_false c26
                            clear c26
                            have H' := Aside0.mk H
                            clear H
                            go_wp2
                            go_roundg k3
                            case measure => have := HJ4.out; have := HK2.out; have := HK3.out; omega
                            case rel => exact ⟨(x13_3), (wrap64 (x36_2 + 1)), (by first | rfl | (simp; done) | (simp [*]; done)), H', ⟨by have := HJ4.out; have := HK2.out; have := HK3.out; omega⟩, ⟨by (with_reducible repeat (first | apply Kd.R_alloc | apply Kd.R_drewN | apply Kd.R_drew)); exact Kd.R_mono HO_13.out (fun _ hk => trivial)⟩, ⟨by repeat (first | (with_reducible first | exact HB.out | apply below_alloc | apply pw_below_drewN | apply below_drew1) | exact HB.out)⟩⟩
                    · rw [if_neg c20] at H
                      exact absurd H (by simp)
                  · rw [if_neg c19] at H
                    exact absurd H (by simp)
                · rw [if_neg c18] at H
                  have c18b0 : decide (x36_2 < (l0.length : Int)) = false := decide_eq_false c18
                  clear c18
                  obtain rfl := Option.some.inj H
                  go_wp2
                  go_ret
                  exact ⟨_, by first | rfl | (simp [errW_none, errW_some] <;> rfl) | (simp [*, errW_none, errW_some] <;> rfl), by (with_reducible repeat (first | apply Kd.R_alloc | apply Kd.R_drewN | apply Kd.R_drew)); exact HO_9.out, by repeat (first | (with_reducible first | exact HB.out | apply below_alloc | apply pw_below_drewN | apply below_drew1) | exact HB.out)⟩
          · rw [if_neg c15] at H
            exact absurd H (by simp)
        · rw [if_neg c14] at H
          exact absurd H (by simp)

end Go.Proofs.Ytpoblnigmfbnfac.PFnExactFinish
