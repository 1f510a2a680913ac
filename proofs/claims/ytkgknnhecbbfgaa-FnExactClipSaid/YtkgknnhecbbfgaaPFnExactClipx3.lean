-- Printed out of the translation, hand-written contracts beside it; checked by the kernel alone.
import Derived.Test.YtkgknnhecbbfgaaPFnExactClipx0
import Derived.Test.YtkgknnhecbbfgaaPFnExactClipx1
import Derived.Test.YtkgknnhecbbfgaaPFnExactClipx2
namespace Go.Proofs.Ytkgknnhecbbfgaa.PFnExactClip
open Go.RowKit Go.Proofs.YtkgknnhecbbfgaaW.PrintWords Go.Proofs.YtkgknnhecbbfgaaW.PrintLast Go.Proofs.YtkgknnhecbbfgaaW.PrintMore
attribute [local go_sem] max2_int min2_int max_two min_two max_three min_three max_four min_four   -- for this text's walks alone
set_option linter.unusedVariables false
set_option linter.unusedSimpArgs false

/-! ### impl_near: function 73 -/
def impl_near.f (a0 : Int) (a1 : Int) (a2 : Int) : Option (Int) := if a1 > (wrap64 (a2 - a1)) then (some (wrap64 (a0 + 1))) else (if a1 = (wrap64 (a2 - a1)) then (if (Go.bits .and .i64 a0 1) = 1 then (some (wrap64 (a0 + 1))) else (some a0)) else (some a0))
set_option maxHeartbeats 8000000 in
set_option maxRecDepth 100000 in
theorem impl_near.calls (a0 : Int) (a1 : Int) (a2 : Int) (r : Int) (w : World) (h : impl_near.f a0 a1 a2 = some r) :
    Calls Try.prog 73 #[.int .i64 a0, .int .i64 a1, .int .i64 a2] w fun e w' => e = .returned (.int .i64 r) ∧ Drawn0 w w' := by
  have H : (if a1 > (wrap64 (a2 - a1)) then (some (wrap64 (a0 + 1))) else (if a1 = (wrap64 (a2 - a1)) then (if (Go.bits .and .i64 a0 1) = 1 then (some (wrap64 (a0 + 1))) else (some a0)) else (some a0))) = some r := h
  clear h
  by_cases c4 : a1 > (wrap64 (a2 - a1))
  · rw [if_pos c4] at H
    have c4b0 : decide ((wrap64 (a2 - a1)) < a1) = true := decide_eq_true c4
    clear c4
    obtain rfl := Option.some.inj H
    go_enter Try.func73, Try.ntmps73
    go_wp2
    go_ret
    exact ⟨by first | rfl | (simp; done) | (simp [*]; done), by repeat (first | exact Drawn0.refl _ | apply Drawn0.step)⟩
  · rw [if_neg c4] at H
    have c4b0 : decide ((wrap64 (a2 - a1)) < a1) = false := decide_eq_false c4
    clear c4
    by_cases c5 : a1 = (wrap64 (a2 - a1))
    · rw [if_pos c5] at H
      have c5b0 : (a1 == (wrap64 (a2 - a1))) = true := beq_iff_eq.mpr c5
      have c5b1 : (a1 != (wrap64 (a2 - a1))) = false := bne_eq_false_iff_eq.mpr c5
      clear c5
      by_cases c6 : (Go.bits .and .i64 a0 1) = 1
      · rw [if_pos c6] at H
        have c6b0 : ((Go.bits .and .i64 a0 1) == 1) = true := beq_iff_eq.mpr c6
        have c6b1 : ((Go.bits .and .i64 a0 1) != 1) = false := bne_eq_false_iff_eq.mpr c6
        clear c6
        obtain rfl := Option.some.inj H
        go_enter Try.func73, Try.ntmps73
        go_wp2
        go_ret
        exact ⟨by first | rfl | (simp; done) | (simp [*]; done), by repeat (first | exact Drawn0.refl _ | apply Drawn0.step)⟩
      · rw [if_neg c6] at H
        have c6b0 : ((Go.bits .and .i64 a0 1) == 1) = false := beq_eq_false_iff_ne.mpr c6
        have c6b1 : ((Go.bits .and .i64 a0 1) != 1) = true := bne_iff_ne.mpr c6
        obtain rfl := Option.some.inj H
        go_enter Try.func73, Try.ntmps73
        go_wp2
        go_ret
        exact ⟨by first | rfl | (simp; done) | (simp [*]; done), by repeat (first | exact Drawn0.refl _ | apply Drawn0.step)⟩
    · rw [if_neg c5] at H
      have c5b0 : (a1 == (wrap64 (a2 - a1))) = false := beq_eq_false_iff_ne.mpr c5
      have c5b1 : (a1 != (wrap64 (a2 - a1))) = true := bne_iff_ne.mpr c5
      obtain rfl := Option.some.inj H
      go_enter Try.func73, Try.ntmps73
      go_wp2
      go_ret
      exact ⟨by first | rfl | (simp; done) | (simp [*]; done), by repeat (first | exact Drawn0.refl _ | apply Drawn0.step)⟩

/-! ### impl_Near: function 70 -/
def impl_Near.j0 : Nat → Int → Int → Bool → Option (Int)
  | 0, _, _, _ => none
  | k + 1, x0, x1, x12 => if x12 = true then (some 0) else (if x1 = 0 then (none) else (if (Int.tmod x0 x1) < 0 then ((impl_near.f (wrap64 ((wrap64 (Int.tdiv x0 x1)) - 1)) (wrap64 ((Int.tmod x0 x1) + x1)) x1).bind fun t141 => (some t141)) else ((impl_near.f (wrap64 (Int.tdiv x0 x1)) (Int.tmod x0 x1) x1).bind fun t142 => (some t142))))
def impl_Near.f (k : Nat) (a0 : Int) (a1 : Int) : Option (Int) := if a1 < 1 then (impl_Near.j0 k a0 a1 true) else (impl_Near.j0 k a0 a1 (decide (a1 > 4611686018427387904)))
theorem impl_Near.mono_l : ∀ k, (∀ y0 y1 y2, LeO (impl_Near.j0 k y0 y1 y2) (impl_Near.j0 (k + 1) y0 y1 y2))
  | 0 => fun _ _ _ r h => by simp [impl_Near.j0] at h
  | k + 1 => by
    have ih0 := impl_Near.mono_l k
    · intro y0 y1 y2
      unfold impl_Near.j0
      repeat' first
      | (with_reducible exact ih0 _ _ _)
      | (with_reducible exact LeO.refl _)
      | (with_reducible exact LeO.none _)
      | (with_reducible refine LeO.ite ?_ ?_)
      | (with_reducible refine LeO.bind ?_ (fun _ => ?_))
      | exact ih0 _ _ _
      | exact LeO.none _
      | refine LeO.ite ?_ ?_
      | refine LeO.bind ?_ (fun _ => ?_)
theorem impl_Near.mono : ∀ a0 a1 k, LeO (impl_Near.f k a0 a1) (impl_Near.f (k + 1) a0 a1) := by
  intro a0 a1 k
  have ih0 := impl_Near.mono_l k
  unfold impl_Near.f
  repeat' first
      | (with_reducible exact ih0 _ _ _)
      | (with_reducible exact LeO.refl _)
      | (with_reducible exact LeO.none _)
      | (with_reducible refine LeO.ite ?_ ?_)
      | (with_reducible refine LeO.bind ?_ (fun _ => ?_))
      | exact ih0 _ _ _
      | exact LeO.none _
      | refine LeO.ite ?_ ?_
      | refine LeO.bind ?_ (fun _ => ?_)
set_option maxHeartbeats 8000000 in
set_option maxRecDepth 100000 in
theorem impl_Near.calls (k : Nat) (a0 : Int) (a1 : Int) (r : Int) (w : World) (h : impl_Near.f k a0 a1 = some r) :
    Calls Try.prog 70 #[.int .i64 a0, .int .i64 a1] w fun e w' => e = .returned (.int .i64 r) ∧ Drawn0 w w' := by
  have H : (if a1 < 1 then (impl_Near.j0 k a0 a1 true) else (impl_Near.j0 k a0 a1 (decide (a1 > 4611686018427387904)))) = some r := h
  clear h
  have HC3 := Aside0.mk H
  clear H
  go_enter Try.func70, Try.ntmps70
  go_upto_region 1 with (fail)
  repeat (go_quiet (fail); go_upto_region 1 with (fail))
  go_cut [12] (fun v12 wc => ∃ (kq : Nat) (x12_2 : Bool), v12 = .bool x12_2 ∧ Aside0 (impl_Near.j0 kq a0 a1 x12_2 = some r) ∧ Aside0 (kq ≤ k) ∧ Drawn0 w wc)
  case first =>
    have H := HC3.out
    clear HC3
    by_cases c4 : a1 < 1
    · rw [if_pos c4] at H
      have c4b0 : decide (a1 < 1) = true := decide_eq_true c4
      clear c4
      (first | rw [c4b0] | (simp only [i64_w, i32_w]; rw [c4b0]) | skip)
      have H' := Aside0.mk H
      clear H
      go_wp2
      repeat (go_quiet (fail); try go_wp2)
      go_meet
      case rel => exact ⟨_, (true), (by first | rfl | (simp; done) | (simp [*]; done)), H', ⟨by first | omega | exact Nat.le_refl _⟩, by repeat (first | exact Drawn0.refl _ | apply Drawn0.step)⟩
    · rw [if_neg c4] at H
      have c4b0 : decide (a1 < 1) = false := decide_eq_false c4
      clear c4
      (first | rw [c4b0] | (simp only [i64_w, i32_w]; rw [c4b0]) | skip)
      have H' := Aside0.mk H
      clear H
      go_wp2
      repeat (go_quiet (fail); try go_wp2)
      go_meet
      case rel => exact ⟨_, (decide (a1 > 4611686018427387904)), (by first | rfl | (simp; done) | (simp [*]; done)), H', ⟨by first | omega | exact Nat.le_refl _⟩, by repeat (first | exact Drawn0.refl _ | apply Drawn0.step)⟩
  case rest =>
    clear HC3
    try clear p2
    try clear c4
    try clear c4b0
    obtain ⟨kq, x12_2, rfl, HA, HJ2, ⟨mc2, rfl⟩⟩ := hcut
    cases kq with
    | zero => exact absurd HA.out (by simp [impl_Near.j0])
    | succ kj2 =>
      have H := HA.out
      clear HA
      simp only [impl_Near.j0] at H
      by_cases c5 : x12_2 = true
      · subst c5
        have H1 : (some 0) = some r := by rw [if_pos rfl] at H; exact H
        clear H
        have H := H1
        clear H1
        obtain rfl := Option.some.inj H
        go_wp2
        repeat (go_quiet (fail); try go_wp2)
        go_ret
        exact ⟨by first | rfl | (simp; done) | (simp [*]; done), by repeat (first | exact Drawn0.refl _ | apply Drawn0.step)⟩
      · replace c5 := Bool.eq_false_iff.mpr c5
        subst c5
        have H1 : (if a1 = 0 then (none) else (if (Int.tmod a0 a1) < 0 then ((impl_near.f (wrap64 ((wrap64 (Int.tdiv a0 a1)) - 1)) (wrap64 ((Int.tmod a0 a1) + a1)) a1).bind fun t141 => (some t141)) else ((impl_near.f (wrap64 (Int.tdiv a0 a1)) (Int.tmod a0 a1) a1).bind fun t142 => (some t142)))) = some r := by rw [if_neg (show ¬ (false = true) by decide)] at H; exact H
        clear H
        have H := H1
        clear H1
        by_cases c6 : a1 = 0
        · rw [if_pos c6] at H
          exact absurd H (by simp)
        · rw [if_neg c6] at H
          have c6b0 : (a1 == 0) = false := beq_eq_false_iff_ne.mpr c6
          have c6b1 : (a1 != 0) = true := bne_iff_ne.mpr c6
          by_cases c7 : (Int.tmod a0 a1) < 0
          · rw [if_pos c7] at H
            have c7b0 : decide ((Int.tmod a0 a1) < 0) = true := decide_eq_true c7
            clear c7
            replace H := Option.bind_eq_some_iff.mp H
            obtain ⟨t141, A80, H⟩ := H
            replace H : (some t141) = some r := H
            have A8 := Aside0.mk A80
            clear A80
            obtain rfl := Option.some.inj H
            go_wp2_with (first | (go_at_call 73; (with_reducible refine (impl_near.calls (wrap64 ((wrap64 (Int.tdiv a0 a1)) - 1)) (wrap64 ((Int.tmod a0 a1) + a1)) a1 t141 _ A8.out).mono ?_); rintro e w' ⟨rfl, ⟨nd, rfl⟩⟩; (try first | exact ⟨rfl, _, World.drewN_drewN _ _ _⟩ | exact ⟨rfl, _, Eq.trans (World.drewN_drewN _ _ _) (congrArg (World.drewN _) (Nat.add_assoc _ _ _))⟩)))
            repeat (go_quiet (first | (go_at_call 73; (with_reducible refine (impl_near.calls (wrap64 ((wrap64 (Int.tdiv a0 a1)) - 1)) (wrap64 ((Int.tmod a0 a1) + a1)) a1 t141 _ A8.out).mono ?_); rintro e w' ⟨rfl, ⟨nd, rfl⟩⟩; (try first | exact ⟨rfl, _, World.drewN_drewN _ _ _⟩ | exact ⟨rfl, _, Eq.trans (World.drewN_drewN _ _ _) (congrArg (World.drewN _) (Nat.add_assoc _ _ _))⟩))); try go_wp2_with (first | (go_at_call 73; (with_reducible refine (impl_near.calls (wrap64 ((wrap64 (Int.tdiv a0 a1)) - 1)) (wrap64 ((Int.tmod a0 a1) + a1)) a1 t141 _ A8.out).mono ?_); rintro e w' ⟨rfl, ⟨nd, rfl⟩⟩; (try first | exact ⟨rfl, _, World.drewN_drewN _ _ _⟩ | exact ⟨rfl, _, Eq.trans (World.drewN_drewN _ _ _) (congrArg (World.drewN _) (Nat.add_assoc _ _ _))⟩))))
            go_ret
            exact ⟨by first | rfl | (simp; done) | (simp [*]; done), by repeat (first | exact Drawn0.refl _ | apply Drawn0.step)⟩
          · rw [if_neg c7] at H
            have c7b0 : decide ((Int.tmod a0 a1) < 0) = false := decide_eq_false c7
            clear c7
            replace H := Option.bind_eq_some_iff.mp H
            obtain ⟨t142, A90, H⟩ := H
            replace H : (some t142) = some r := H
            have A9 := Aside0.mk A90
            clear A90
            obtain rfl := Option.some.inj H
            go_wp2_with (first | (go_at_call 73; (with_reducible refine (impl_near.calls (wrap64 (Int.tdiv a0 a1)) (Int.tmod a0 a1) a1 t142 _ A9.out).mono ?_); rintro e w' ⟨rfl, ⟨nd, rfl⟩⟩; (try first | exact ⟨rfl, _, World.drewN_drewN _ _ _⟩ | exact ⟨rfl, _, Eq.trans (World.drewN_drewN _ _ _) (congrArg (World.drewN _) (Nat.add_assoc _ _ _))⟩)))
            repeat (go_quiet (first | (go_at_call 73; (with_reducible refine (impl_near.calls (wrap64 (Int.tdiv a0 a1)) (Int.tmod a0 a1) a1 t142 _ A9.out).mono ?_); rintro e w' ⟨rfl, ⟨nd, rfl⟩⟩; (try first | exact ⟨rfl, _, World.drewN_drewN _ _ _⟩ | exact ⟨rfl, _, Eq.trans (World.drewN_drewN _ _ _) (congrArg (World.drewN _) (Nat.add_assoc _ _ _))⟩))); try go_wp2_with (first | (go_at_call 73; (with_reducible refine (impl_near.calls (wrap64 (Int.tdiv a0 a1)) (Int.tmod a0 a1) a1 t142 _ A9.out).mono ?_); rintro e w' ⟨rfl, ⟨nd, rfl⟩⟩; (try first | exact ⟨rfl, _, World.drewN_drewN _ _ _⟩ | exact ⟨rfl, _, Eq.trans (World.drewN_drewN _ _ _) (congrArg (World.drewN _) (Nat.add_assoc _ _ _))⟩))))
            go_ret
            exact ⟨by first | rfl | (simp; done) | (simp [*]; done), by repeat (first | exact Drawn0.refl _ | apply Drawn0.step)⟩

/-! ### impl_Clip: function 31 -/
def impl_Clip.l0 : Nat → List Int → Int → Int → List Int → Int → Option (List Int)
  | 0, _, _, _, _, _ => none
  | k + 1, x0, m, n, x3, x4 => if x4 < (x0.length : Int) then (if 0 ≤ x4 then (if x4 < (x3.length : Int) then ((impl_Near.f k (wrap64 ((rd x0 x4) * m)) n).bind fun t => (impl_Clip.l0 k x0 m n (x3.set (x4 : Int).toNat t) (wrap64 (x4 + 1)))) else (none)) else (none)) else (some x3)
def impl_Clip.f (k : Nat) (l0 : List Int) (a1 : Int) : Option (List Int) := (impl_gradOk.f k l0).bind fun t1 => (if t1 = true then ((impl_within.f a1 0 1073741824).bind fun t2 => (if t2 = true then ((impl_Norm.f k l0).bind fun t3 => (if t3 ≤ a1 then (slices_Clone_int_int.f l0) else (if l0.length ≤ 35184372088832 then (impl_Clip.l0 k l0 a1 t3 (List.replicate l0.length 0) 0) else (none)))) else (some ([] : List Int)))) else (some ([] : List Int)))
theorem impl_Clip.mono_l : ∀ k, (∀ y0 y1 y2 y3 y4, LeO (impl_Clip.l0 k y0 y1 y2 y3 y4) (impl_Clip.l0 (k + 1) y0 y1 y2 y3 y4))
  | 0 => fun _ _ _ _ _ r h => by simp [impl_Clip.l0] at h
  | k + 1 => by
    have ih0 := impl_Clip.mono_l k
    · intro y0 y1 y2 y3 y4
      unfold impl_Clip.l0
      repeat' first
      | (with_reducible exact ih0 _ _ _ _ _)
      | (with_reducible exact impl_Near.mono _ _ _)
      | (with_reducible exact LeO.refl _)
      | (with_reducible exact LeO.none _)
      | (with_reducible refine LeO.ite ?_ ?_)
      | (with_reducible refine LeO.bind ?_ (fun _ => ?_))
theorem impl_Clip.mono : ∀ a0 a1 k, LeO (impl_Clip.f k a0 a1) (impl_Clip.f (k + 1) a0 a1) := by
  intro a0 a1 k
  have ih0 := impl_Clip.mono_l k
  unfold impl_Clip.f
  repeat' first
      | (with_reducible exact ih0 _ _ _ _ _)
      | (with_reducible exact impl_Norm.mono _ _)
      | (with_reducible exact impl_gradOk.mono _ _)
      | (with_reducible exact LeO.refl _)
      | (with_reducible exact LeO.none _)
      | (with_reducible refine LeO.ite ?_ ?_)
      | (with_reducible refine LeO.bind ?_ (fun _ => ?_))
theorem impl_Clip.c1 (k : Nat) (x m n r : Int) (pm pn : Nat) (w : World) (hm : w.cell? ⟨pm, 0, none⟩ = some (.int .i64 m)) (hn : w.cell? ⟨pn, 0, none⟩ = some (.int .i64 n)) (h : impl_Near.f k (wrap64 (x * m)) n = some r) :
    Calls Try.prog 69 #[.int .i64 x, .pointer (some ⟨pm, 0, none⟩), .pointer (some ⟨pn, 0, none⟩)] w fun e w' => e = .returned (.int .i64 r) ∧ Drawn0 w w' := by
  have A2 := Aside0.mk h
  clear h
  go_enter Try.func69, Try.ntmps69
  go_wp2_with (first | (go_at_call 70; (with_reducible refine (impl_Near.calls k (wrap64 (x * m)) n r _ A2.out).mono ?_); rintro e w' ⟨rfl, ⟨nd, rfl⟩⟩))
  go_ret
  exact ⟨rfl, by repeat (first | exact Drawn0.refl _ | apply Drawn0.step)⟩
set_option maxHeartbeats 8000000 in
set_option maxRecDepth 100000 in
theorem impl_Clip.mp (k : Nat) (A0 : Option Addr) (c0 : Nat) (l0 : List Int) (m n : Int) (pm pn : Nat) (r : List Int) (w : World) (hr0 : Kd.C (Kd.int .i64) w A0 l0.length l0) (hc0 : l0.length ≤ c0) (hm : w.cell? ⟨pm, 0, none⟩ = some (.int .i64 m)) (hn : w.cell? ⟨pn, 0, none⟩ = some (.int .i64 n)) (hl : l0.length ≤ 35184372088832) (h : impl_Clip.l0 k l0 m n (List.replicate l0.length 0) 0 = some r) :
    Calls Try.prog 68 #[.slice A0 l0.length c0, .func (.func 69) #[] #[.pointer (some ⟨pm, 0, none⟩), .pointer (some ⟨pn, 0, none⟩)]] w fun e w' => ∃ v0_ : Value, e = .returned (v0_) ∧ Kd.R (Kd.int .i64) 3 w' w.heap.size (fun _ => True) v0_ r ∧ Below w.heap.size w w' := by
  have HR0 := Aside0.mk hr0
  have HC0 := Aside0.mk hc0
  have HM := Aside0.mk hm
  have HN := Aside0.mk hn
  clear hr0 hc0 hm hn
  have HB := Aside0.mk (Below.refl w.heap.size w)
  have c2b1 : decide (0 ≤ (l0.length : Int)) = true := decide_eq_true (by omega)
  have c3b1 : decide (((l0.length : Int) : Int).toNat ≤ 35184372088832) = true := decide_eq_true (by omega)
  clear hl
  obtain ⟨y118, hy118⟩ : ∃ y_ : List Int, y_ = (List.replicate ((l0.length : Int) : Int).toNat 0) := ⟨_, rfl⟩
  have H : (impl_Clip.l0 k l0 m n y118 0) = some r := by rw [hy118, Int.toNat_natCast]; exact h
  clear h
  have Ny118 := Aside0.mk hy118
  clear hy118
  have H' := Aside0.mk H
  clear H
  go_enter Try.func68, Try.ntmps68
  go_wp2_with (first | ((with_reducible refine gate_dst (N := 10) rfl ?_); refine Kd.R_make (Kd.int .i64) _ 3 rfl (N := 10) rfl 29 _ _ rfl (l0.length : Int) rfl rfl Try.underlying29 (.int .i64 0) 8 info3 rfl (by decide) (by omega) 0 (ok := fun _ => True) (okp := fun _ => True) rfl (fun _ hk => hk) trivial (of_decide_eq_true (by first | (with_reducible assumption) | assumption)) (Nat.le_trans (Nat.mul_le_mul_right _ (of_decide_eq_true (by first | (with_reducible assumption) | assumption) : (l0.length : Int).toNat ≤ 35184372088832)) (by omega)) (Below.refl _ _) (Nat.le_refl _) ?_; intro v119 w4 ho5 hb hg_ hnew_; clear hg_ hnew_; (first | rw [← Ny118.out] at ho5 | (simp only [Int.reduceToNat] at ho5; rw [← Ny118.out] at ho5)); have n0_ := Aside0.mk (Kd.R_lower ho5 (below_size (by repeat (first | (with_reducible first | exact HB.out | apply below_alloc | apply pw_below_drewN | apply below_drew1) | exact HB.out)))); have n1_ := Aside0.mk (below_step (by repeat (first | (with_reducible first | exact HB.out | apply below_alloc | apply pw_below_drewN | apply below_drew1) | exact HB.out)) hb); clear HB; have HO120 := n0_; have HB := n1_; clear n0_ n1_; clear hb ho5))
  go_loopg [13] k (fun kq v13 w' => ∃ (x3_1 : List Int) (x4_1 : Int), v13 = .int .i64 x4_1 ∧ Aside0 (impl_Clip.l0 kq l0 m n x3_1 x4_1 = some r) ∧ Aside0 (kq ≤ k) ∧ Aside0 (Kd.R (Kd.int .i64) 3 w' w.heap.size (fun _ => True) v119 x3_1) ∧ Aside0 (Below w.heap.size w w'))
  case atStart => exact ⟨(y118), (0), (by first | rfl | (simp; done) | (simp [*]; done)), H', ⟨Nat.le_refl _⟩, ⟨by (with_reducible repeat (first | apply Kd.R_alloc | apply Kd.R_drewN | apply Kd.R_drew)); exact HO120.out⟩, ⟨by repeat (first | (with_reducible first | exact HB.out | apply below_alloc | apply pw_below_drewN | apply below_drew1) | exact HB.out)⟩⟩
  case round =>
    clear H'
    try clear c2b1
    try clear c3b1
    obtain ⟨x3_1, x4_1, rfl, HA, HK1, HO_3, HB⟩ := hrel
    cases gk with
    | zero => exact absurd HA.out (by simp [impl_Clip.l0])
    | succ k1 =>
      have H := HA.out
      clear HA
      simp only [impl_Clip.l0] at H
      by_cases c6 : x4_1 < (l0.length : Int)
      · rw [if_pos c6] at H
        have c6b0 : decide (x4_1 < (l0.length : Int)) = true := decide_eq_true c6
        clear c6
        by_cases c7 : 0 ≤ x4_1
        · rw [if_pos c7] at H
          have c7b0 : decide (0 ≤ x4_1) = true := decide_eq_true c7
          clear c7
          by_cases c8 : x4_1 < (x3_1.length : Int)
          · rw [if_pos c8] at H
            have c8b0 : decide (x4_1 < (x3_1.length : Int)) = true := decide_eq_true c8
            clear c8
            obtain ⟨t9, A90, H⟩ := Option.bind_eq_some_iff.mp H
            replace H : impl_Clip.l0 k1 l0 m n (x3_1.set (x4_1 : Int).toNat t9) (wrap64 (x4_1 + 1)) = some r := H
            have A9 := Aside0.mk A90
            clear A90
            obtain ⟨y122, hy122⟩ : ∃ y_ : List Int, y_ = (x3_1.set (x4_1 : Int).toNat t9) := ⟨_, rfl⟩
            replace H : (impl_Clip.l0 k1 l0 m n y122 (wrap64 (x4_1 + 1))) = some r := by rw [hy122]; exact H
            have Ny122 := Aside0.mk hy122
            clear hy122
            have H' := Aside0.mk H
            clear H
            have p121 : 0 ≤ (x4_1 : Int) := of_decide_eq_true (by first | (with_reducible assumption) | assumption)
            have q121 : x4_1 < (l0.length : Int) := of_decide_eq_true (by first | (with_reducible assumption) | assumption)
            obtain ⟨ad121, e121, hx121_0⟩ := Kd.at_int HR0.out x4_1 p121 q121
            cases e121
            replace hx121_0 := (HB.out.cell (World.block_lt_of_cell? w _ hx121_0)).trans hx121_0
            have hcm := Aside0.mk ((HB.out.cell (World.block_lt_of_cell? w _ HM.out)).trans HM.out)
            have hcn := Aside0.mk ((HB.out.cell (World.block_lt_of_cell? w _ HN.out)).trans HN.out)
            replace p121 := eq_true p121
            replace q121 := eq_true q121
            have p9 : 0 ≤ (x4_1 : Int) := of_decide_eq_true (by first | (with_reducible assumption) | assumption)
            have q9 : (x4_1 : Int) < ((x3_1.length : Int) : Int) := of_decide_eq_true (by first | (with_reducible assumption) | assumption)
            obtain ⟨go9, co9, eo9, gb9, gl9, cl9, HG9⟩ := Kd.R_form HO_3.out (by omega)
            (first | cases eo9 | (injection eo9 with ea_ en_ ec_; (first | subst ea_ | (injection ea_ with ea_; subst ea_)); subst ec_; clear en_))
            have GB9 := Aside0.mk gb9
            have GG9 := Aside0.mk HG9
            clear gb9 gl9 HG9
            go_wp2_with (first | (go_at_call 69; (with_reducible refine (impl_Clip.c1 k1 (rd l0 x4_1) m n t9 pm pn _ ?side1 ?side2 A9.out).mono ?_); (case side1 => exact hcm.out); (case side2 => exact hcn.out); rintro e w' ⟨rfl, ⟨nd, rfl⟩⟩; (have n0_ := Aside0.mk (Kd.R_drewN HO_3.out nd); have n1_ := Aside0.mk (pw_below_drewN HB.out nd); clear HO_3 HB; have HO_3 := n0_; have HB := n1_; clear n0_ n1_); (obtain ⟨hx9_0, hf9_0⟩ := Kd.R_celln 0 HO_3.out (x4_1 : Int) p9 q9); replace p9 := eq_true p9; replace q9 := eq_true q9; have HP10 := Kd.R_putg HO_3.out (x4_1 : Int) t9) | ((with_reducible refine gate_store (t := 3) (p := 23) rfl ?_); refine store_event (t := 3) (p := 23) (v := ?vo_w11) (w1 := (World.setCell (World.drewN wr nd) ⟨go9, (x4_1 : Int).toNat, none⟩ (.int .i64 t9))) ?hg ?ho ?hn ?hr ?_; (case ho => rfl); (case hg => rfl); (case hn => rfl); (case hr => first | (go_simp; done) | (go_simp; rfl)); intro w11 hw; have hp_ : Kd.R (Kd.int .i64) 3 w11 w.heap.size (fun _ => True) (.slice (some ⟨go9, 0, none⟩) x3_1.length co9) y122 := (by rw [hw, Ny122.out]; exact HP10.1); clear HP10; have n0_ := Aside0.mk (hp_); have n1_ := Aside0.mk ((by rw [hw]; exact below_set (HB.out) GB9.out : Below w.heap.size w w11)); clear HO_3; clear HB; have HO_3 := n0_; have HB := n1_; clear n0_ n1_; clear hw hp_))
            go_roundg k1
            case measure => have := HK1.out; omega
            case rel => exact ⟨(y122), (wrap64 (x4_1 + 1)), (by first | rfl | (simp; done) | (simp [*]; done)), H', ⟨by have := HK1.out; omega⟩, ⟨by (with_reducible repeat (first | apply Kd.R_alloc | apply Kd.R_drewN | apply Kd.R_drew)); exact HO_3.out⟩, ⟨by repeat (first | (with_reducible first | exact HB.out | apply below_alloc | apply pw_below_drewN | apply below_drew1) | exact HB.out)⟩⟩
          · rw [if_neg c8] at H
            exact absurd H (by simp)
        · rw [if_neg c7] at H
          exact absurd H (by simp)
      · rw [if_neg c6] at H
        have c6b0 : decide (x4_1 < (l0.length : Int)) = false := decide_eq_false c6
        clear c6
        obtain rfl := Option.some.inj H
        go_wp2
        go_ret
        exact ⟨_, by first | rfl | (simp [*]; done), by (with_reducible repeat (first | apply Kd.R_alloc | apply Kd.R_drewN | apply Kd.R_drew)); exact HO_3.out, by repeat (first | (with_reducible first | exact HB.out | apply below_alloc | apply pw_below_drewN | apply below_drew1) | exact HB.out)⟩
set_option maxHeartbeats 8000000 in
set_option maxRecDepth 100000 in
theorem impl_Clip.calls (k : Nat) (A0 : Option Addr) (c0 : Nat) (l0 : List Int) (a1 : Int) (r : List Int) (w : World) (hr0 : Kd.C (Kd.int .i64) w A0 l0.length l0) (hc0 : l0.length ≤ c0) (h : impl_Clip.f k l0 a1 = some r) :
    Calls Try.prog 31 #[.slice A0 l0.length c0, .int .i64 a1] w fun e w' => ∃ v0_ : Value, e = .returned (v0_) ∧ Kd.R (Kd.int .i64) 3 w' w.heap.size (fun _ => True) v0_ r ∧ Below w.heap.size w w' := by
  have HR0 := Aside0.mk hr0
  have HC0 := Aside0.mk hc0
  clear hr0 hc0
  have HB := Aside0.mk (Below.refl w.heap.size w)
  have hmf : ∀ (fn : Fn) (first cap : Array Value) (w : World), (Instr.makeFunc fn first cap).run Try.prog w = .ok (.func fn first cap) w := fun _ _ _ _ => rfl
  unfold impl_Clip.f at h
  obtain ⟨t1, A10, H⟩ := Option.bind_eq_some_iff.mp h
  clear h
  have A1 := Aside0.mk A10
  clear A10
  cases t1 with
  | false =>
    rw [if_neg (by simp)] at H
    obtain rfl := Option.some.inj H
    go_enter Try.func31, Try.ntmps31
    go_wp2_with (first | ((with_reducible refine gate_dst (N := 3) rfl ?_); refine box_event ?hg (N := 3) ?hd (cs := #[.int .i64 a1]) (t := 3) ?hr ?_; (case hd => rfl); (case hg => rfl); (case hr => first | (go_simp; done) | (go_simp; rfl)); intro gb1 hggb1 w4 hbox hb; have n0_ := Aside0.mk (below_step (by repeat (first | (with_reducible first | exact HB.out | apply below_alloc | apply pw_below_drewN | apply below_drew1) | exact HB.out)) hb); have n1_ := Aside0.mk (by rw [hggb1]; exact Nat.le_refl _ : w.heap.size ≤ gb1); clear HB; have HB := n0_; have HG1 := n1_; clear n0_ n1_; have hcb1 := (blk_cell hbox 0).trans (show (#[Value.int .i64 a1] : Array Value)[0]? = some (.int .i64 a1) from rfl); have BK1 := Aside0.mk hbox; clear hb hbox hggb1) | ((with_reducible refine gate_callee (f := 65) rfl ?_); refine goesL_ (some 7) rfl rfl Try.func65 (by kernel_rfl) rfl #[.slice A0 l0.length c0] rfl (by (try simp only [List.map_toArray, List.map_cons, List.map_nil]); first | done | rfl) ?_; (with_reducible refine (impl_gradOk.calls k _ _ l0 false _ ?side1 ?side2 A1.out).mono ?_); (case side1 => repeat (first | exact (Kd.C_below HR0.out HB.out) | (with_reducible refine Kd.C_alloc ?_ _) | (with_reducible refine Kd.C_drewN ?_ _) | (with_reducible refine Kd.C_drew ?_))); (case side2 => exact HC0.out); rintro e w' ⟨rfl, ⟨nd, rfl⟩⟩; refine ⟨_, rfl, ?_⟩))
    go_ret
    exact ⟨_, by first | rfl | (simp [*]; done), Kd.R_nil _ _ _ _ _, by repeat (first | (with_reducible first | exact HB.out | apply below_alloc | apply pw_below_drewN | apply below_drew1) | exact HB.out)⟩
  | true =>
  rw [if_pos rfl] at H
  obtain ⟨t2, A20, H⟩ := Option.bind_eq_some_iff.mp H
  have A2 := Aside0.mk A20
  clear A20
  cases t2 with
  | false =>
    rw [if_neg (by simp)] at H
    obtain rfl := Option.some.inj H
    go_enter Try.func31, Try.ntmps31
    go_wp2_with (first | ((with_reducible refine gate_dst (N := 3) rfl ?_); refine box_event ?hg (N := 3) ?hd (cs := #[.int .i64 a1]) (t := 3) ?hr ?_; (case hd => rfl); (case hg => rfl); (case hr => first | (go_simp; done) | (go_simp; rfl)); intro gb1 hggb1 w4 hbox hb; have n0_ := Aside0.mk (below_step (by repeat (first | (with_reducible first | exact HB.out | apply below_alloc | apply pw_below_drewN | apply below_drew1) | exact HB.out)) hb); have n1_ := Aside0.mk (by rw [hggb1]; exact Nat.le_refl _ : w.heap.size ≤ gb1); clear HB; have HB := n0_; have HG1 := n1_; clear n0_ n1_; have hcb1 := (blk_cell hbox 0).trans (show (#[Value.int .i64 a1] : Array Value)[0]? = some (.int .i64 a1) from rfl); have BK1 := Aside0.mk hbox; clear hb hbox hggb1) | ((with_reducible refine gate_callee (f := 65) rfl ?_); refine goesL_ (some 7) rfl rfl Try.func65 (by kernel_rfl) rfl #[.slice A0 l0.length c0] rfl (by (try simp only [List.map_toArray, List.map_cons, List.map_nil]); first | done | rfl) ?_; (with_reducible refine (impl_gradOk.calls k _ _ l0 true _ ?side1 ?side2 A1.out).mono ?_); (case side1 => repeat (first | exact (Kd.C_below HR0.out HB.out) | (with_reducible refine Kd.C_alloc ?_ _) | (with_reducible refine Kd.C_drewN ?_ _) | (with_reducible refine Kd.C_drew ?_))); (case side2 => exact HC0.out); rintro e w' ⟨rfl, ⟨nd, rfl⟩⟩; refine ⟨_, rfl, ?_⟩) | (go_at_call 41; (with_reducible refine (impl_within.calls a1 0 1073741824 false _ A2.out).mono ?_); rintro e w' ⟨rfl, ⟨nd, rfl⟩⟩))
    go_ret
    exact ⟨_, by first | rfl | (simp [*]; done), Kd.R_nil _ _ _ _ _, by repeat (first | (with_reducible first | exact HB.out | apply below_alloc | apply pw_below_drewN | apply below_drew1) | exact HB.out)⟩
  | true =>
  rw [if_pos rfl] at H
  obtain ⟨t3, A30, H⟩ := Option.bind_eq_some_iff.mp H
  have A3 := Aside0.mk A30
  clear A30
  by_cases c9 : t3 ≤ a1
  · rw [if_pos c9] at H
    have c9b0 : decide (t3 ≤ a1) = true := decide_eq_true c9
    clear c9
    have A4 := Aside0.mk H
    clear H
    go_enter Try.func31, Try.ntmps31
    go_wp2_with (first | ((with_reducible refine gate_dst (N := 3) rfl ?_); refine box_event ?hg (N := 3) ?hd (cs := #[.int .i64 a1]) (t := 3) ?hr ?_; (case hd => rfl); (case hg => rfl); (case hr => first | (go_simp; done) | (go_simp; rfl)); intro gb1 hggb1 w4 hbox hb; have n0_ := Aside0.mk (below_step (by repeat (first | (with_reducible first | exact HB.out | apply below_alloc | apply pw_below_drewN | apply below_drew1) | exact HB.out)) hb); have n1_ := Aside0.mk (by rw [hggb1]; exact Nat.le_refl _ : w.heap.size ≤ gb1); clear HB; have HB := n0_; have HG1 := n1_; clear n0_ n1_; have hcb1 := (blk_cell hbox 0).trans (show (#[Value.int .i64 a1] : Array Value)[0]? = some (.int .i64 a1) from rfl); have BK1 := Aside0.mk hbox; clear hb hbox hggb1) | ((with_reducible refine gate_callee (f := 65) rfl ?_); refine goesL_ (some 7) rfl rfl Try.func65 (by kernel_rfl) rfl #[.slice A0 l0.length c0] rfl (by (try simp only [List.map_toArray, List.map_cons, List.map_nil]); first | done | rfl) ?_; (with_reducible refine (impl_gradOk.calls k _ _ l0 true _ ?side1 ?side2 A1.out).mono ?_); (case side1 => repeat (first | exact (Kd.C_below HR0.out HB.out) | (with_reducible refine Kd.C_alloc ?_ _) | (with_reducible refine Kd.C_drewN ?_ _) | (with_reducible refine Kd.C_drew ?_))); (case side2 => exact HC0.out); rintro e w' ⟨rfl, ⟨nd, rfl⟩⟩; refine ⟨_, rfl, ?_⟩) | (go_at_call 41; (with_reducible refine (impl_within.calls a1 0 1073741824 true _ A2.out).mono ?_); rintro e w' ⟨rfl, ⟨nd, rfl⟩⟩) | ((with_reducible refine gate_callee (f := 66) rfl ?_); refine goesL_ (some 15) rfl rfl Try.func66 (by kernel_rfl) rfl #[.slice A0 l0.length c0] rfl (by (try simp only [List.map_toArray, List.map_cons, List.map_nil]); first | done | rfl) ?_; (with_reducible refine (impl_Norm.calls k _ _ l0 t3 _ ?side1 ?side2 A3.out).mono ?_); (case side1 => repeat (first | exact (Kd.C_below HR0.out HB.out) | (with_reducible refine Kd.C_alloc ?_ _) | (with_reducible refine Kd.C_drewN ?_ _) | (with_reducible refine Kd.C_drew ?_))); (case side2 => exact HC0.out); rintro e w' ⟨rfl, ⟨nd, rfl⟩⟩; refine ⟨_, rfl, ?_⟩) | ((with_reducible refine gate_dst (N := 5) rfl ?_); refine box_event ?hg (N := 5) ?hd (cs := #[.int .i64 0]) (t := 3) ?hr ?_; (case hd => rfl); (case hg => rfl); (case hr => first | (go_simp; done) | (go_simp; rfl)); intro gb2 hggb2 w9 hbox hb; have n0_ := Aside0.mk (below_step (by repeat (first | (with_reducible first | exact HB.out | apply below_alloc | apply pw_below_drewN | apply below_drew1) | exact HB.out)) hb); have n1_ := Aside0.mk (by rw [hggb2]; exact (below_size (by repeat (first | (with_reducible first | exact HB.out | apply below_alloc | apply pw_below_drewN | apply below_drew1) | exact HB.out))) : w.heap.size ≤ gb2); have n2_ := Aside0.mk (show w9.heap[gb1]? = some (.cells #[.int .i64 a1] 3 (0, 0)) from (hb.block gb1 (blk_lt BK1.out)).trans BK1.out); have n3_ := Aside0.mk (by rw [hggb2]; exact Nat.ne_of_lt (blk_lt (o := .cells #[.int .i64 a1] 3 (0, 0)) BK1.out) : gb1 ≠ gb2); clear HB BK1 hcb1; have HB := n0_; have HG2 := n1_; have BK1 := n2_; have HNE := n3_; clear n0_ n1_ n2_ n3_; have hcb1 := (blk_cell BK1.out 0).trans (show (#[Value.int .i64 a1] : Array Value)[0]? = some (.int .i64 a1) from rfl); have hcb2 := (blk_cell hbox 0).trans (show (#[Value.int .i64 0] : Array Value)[0]? = some (.int .i64 0) from rfl); have hfb2 := blk_frozen hbox 0; have BK2 := Aside0.mk hbox; clear hb hbox hggb2) | ((with_reducible refine gate_store (t := 3) (p := 5) rfl ?_); refine store_event (t := 3) (p := 5) (v := ?vo_w11) (w1 := (World.setCell w9 ⟨gb2, 0, none⟩ (.int .i64 t3))) ?hg ?ho ?hn ?hr ?_; (case ho => rfl); (case hg => rfl); (case hn => rfl); (case hr => first | (go_simp; done) | (go_simp; rfl)); intro w11 hw; have n0_ := Aside0.mk ((by rw [hw]; exact below_set (HB.out) HG2.out : Below w.heap.size w w11)); have h1_ : w11.cell? ⟨gb1, 0, none⟩ = some (.int .i64 a1) := (by rw [hw]; exact (World.cell?_setCell_other _ _ _ _ (by have := HNE.out; simp [this])).trans hcb1); have h2_ : w11.cell? ⟨gb2, 0, none⟩ = some (.int .i64 t3) := (by rw [hw, World.cell?_setCell_same _ _ _ hcb2]); clear HB hcb1 hcb2 hfb2; have HB := n0_; clear n0_; have hcb1 := h1_; have hcb2 := h2_; clear h1_ h2_ hw) | ((with_reducible refine gate_callee (f := 67) rfl ?_); refine goesL_ (some 20) rfl rfl Try.func67 (by kernel_rfl) rfl #[.slice A0 l0.length c0] rfl (by (try simp only [List.map_toArray, List.map_cons, List.map_nil]); first | done | rfl) ?_; (with_reducible refine (slices_Clone_int_int.calls _ _ l0 r _ ?side1 ?side2 A4.out).mono ?_); (case side1 => repeat (first | exact (Kd.C_below HR0.out (by repeat (first | (with_reducible first | exact HB.out | apply below_alloc | apply pw_below_drewN | apply below_drew1) | exact HB.out))) | (with_reducible refine Kd.C_alloc ?_ _) | (with_reducible refine Kd.C_drewN ?_ _) | (with_reducible refine Kd.C_drew ?_))); (case side2 => exact HC0.out);  rintro e w13 ⟨v9, rfl, ho0, hb⟩; refine ⟨_, rfl, ?_⟩; have n0_ := Aside0.mk (Kd.R_lower ho0 (below_size (by repeat (first | (with_reducible first | exact HB.out | apply below_alloc | apply pw_below_drewN | apply below_drew1) | exact HB.out)))); have n1_ := Aside0.mk (below_step (by repeat (first | (with_reducible first | exact HB.out | apply below_alloc | apply pw_below_drewN | apply below_drew1) | exact HB.out)) hb); clear HB; have HO9 := n0_; have HB := n1_; clear n0_ n1_; clear hb ho0))
    go_ret
    exact ⟨_, by first | rfl | (simp [*]; done), by (with_reducible repeat (first | apply Kd.R_alloc | apply Kd.R_drewN | apply Kd.R_drew)); exact HO9.out, by repeat (first | (with_reducible first | exact HB.out | apply below_alloc | apply pw_below_drewN | apply below_drew1) | exact HB.out)⟩
  · rw [if_neg c9] at H
    have c9b0 : decide (t3 ≤ a1) = false := decide_eq_false c9
    clear c9
    by_cases c10 : l0.length ≤ 35184372088832
    · rw [if_pos c10] at H
      have C10 := Aside0.mk c10
      clear c10
      have A4 := Aside0.mk H
      clear H
      go_enter Try.func31, Try.ntmps31
      go_wp2_with (first | ((with_reducible refine gate_dst (N := 3) rfl ?_); refine box_event ?hg (N := 3) ?hd (cs := #[.int .i64 a1]) (t := 3) ?hr ?_; (case hd => rfl); (case hg => rfl); (case hr => first | (go_simp; done) | (go_simp; rfl)); intro gb1 hggb1 w4 hbox hb; have n0_ := Aside0.mk (below_step (by repeat (first | (with_reducible first | exact HB.out | apply below_alloc | apply pw_below_drewN | apply below_drew1) | exact HB.out)) hb); have n1_ := Aside0.mk (by rw [hggb1]; exact Nat.le_refl _ : w.heap.size ≤ gb1); clear HB; have HB := n0_; have HG1 := n1_; clear n0_ n1_; have hcb1 := (blk_cell hbox 0).trans (show (#[Value.int .i64 a1] : Array Value)[0]? = some (.int .i64 a1) from rfl); have BK1 := Aside0.mk hbox; clear hb hbox hggb1) | ((with_reducible refine gate_callee (f := 65) rfl ?_); refine goesL_ (some 7) rfl rfl Try.func65 (by kernel_rfl) rfl #[.slice A0 l0.length c0] rfl (by (try simp only [List.map_toArray, List.map_cons, List.map_nil]); first | done | rfl) ?_; (with_reducible refine (impl_gradOk.calls k _ _ l0 true _ ?side1 ?side2 A1.out).mono ?_); (case side1 => repeat (first | exact (Kd.C_below HR0.out HB.out) | (with_reducible refine Kd.C_alloc ?_ _) | (with_reducible refine Kd.C_drewN ?_ _) | (with_reducible refine Kd.C_drew ?_))); (case side2 => exact HC0.out); rintro e w' ⟨rfl, ⟨nd, rfl⟩⟩; refine ⟨_, rfl, ?_⟩) | (go_at_call 41; (with_reducible refine (impl_within.calls a1 0 1073741824 true _ A2.out).mono ?_); rintro e w' ⟨rfl, ⟨nd, rfl⟩⟩) | ((with_reducible refine gate_callee (f := 66) rfl ?_); refine goesL_ (some 15) rfl rfl Try.func66 (by kernel_rfl) rfl #[.slice A0 l0.length c0] rfl (by (try simp only [List.map_toArray, List.map_cons, List.map_nil]); first | done | rfl) ?_; (with_reducible refine (impl_Norm.calls k _ _ l0 t3 _ ?side1 ?side2 A3.out).mono ?_); (case side1 => repeat (first | exact (Kd.C_below HR0.out HB.out) | (with_reducible refine Kd.C_alloc ?_ _) | (with_reducible refine Kd.C_drewN ?_ _) | (with_reducible refine Kd.C_drew ?_))); (case side2 => exact HC0.out); rintro e w' ⟨rfl, ⟨nd, rfl⟩⟩; refine ⟨_, rfl, ?_⟩) | ((with_reducible refine gate_dst (N := 5) rfl ?_); refine box_event ?hg (N := 5) ?hd (cs := #[.int .i64 0]) (t := 3) ?hr ?_; (case hd => rfl); (case hg => rfl); (case hr => first | (go_simp; done) | (go_simp; rfl)); intro gb2 hggb2 w9 hbox hb; have n0_ := Aside0.mk (below_step (by repeat (first | (with_reducible first | exact HB.out | apply below_alloc | apply pw_below_drewN | apply below_drew1) | exact HB.out)) hb); have n1_ := Aside0.mk (by rw [hggb2]; exact (below_size (by repeat (first | (with_reducible first | exact HB.out | apply below_alloc | apply pw_below_drewN | apply below_drew1) | exact HB.out))) : w.heap.size ≤ gb2); have n2_ := Aside0.mk (show w9.heap[gb1]? = some (.cells #[.int .i64 a1] 3 (0, 0)) from (hb.block gb1 (blk_lt BK1.out)).trans BK1.out); have n3_ := Aside0.mk (by rw [hggb2]; exact Nat.ne_of_lt (blk_lt (o := .cells #[.int .i64 a1] 3 (0, 0)) BK1.out) : gb1 ≠ gb2); clear HB BK1 hcb1; have HB := n0_; have HG2 := n1_; have BK1 := n2_; have HNE := n3_; clear n0_ n1_ n2_ n3_; have hcb1 := (blk_cell BK1.out 0).trans (show (#[Value.int .i64 a1] : Array Value)[0]? = some (.int .i64 a1) from rfl); have hcb2 := (blk_cell hbox 0).trans (show (#[Value.int .i64 0] : Array Value)[0]? = some (.int .i64 0) from rfl); have hfb2 := blk_frozen hbox 0; have BK2 := Aside0.mk hbox; clear hb hbox hggb2) | ((with_reducible refine gate_store (t := 3) (p := 5) rfl ?_); refine store_event (t := 3) (p := 5) (v := ?vo_w11) (w1 := (World.setCell w9 ⟨gb2, 0, none⟩ (.int .i64 t3))) ?hg ?ho ?hn ?hr ?_; (case ho => rfl); (case hg => rfl); (case hn => rfl); (case hr => first | (go_simp; done) | (go_simp; rfl)); intro w11 hw; have n0_ := Aside0.mk ((by rw [hw]; exact below_set (HB.out) HG2.out : Below w.heap.size w w11)); have h1_ : w11.cell? ⟨gb1, 0, none⟩ = some (.int .i64 a1) := (by rw [hw]; exact (World.cell?_setCell_other _ _ _ _ (by have := HNE.out; simp [this])).trans hcb1); have h2_ : w11.cell? ⟨gb2, 0, none⟩ = some (.int .i64 t3) := (by rw [hw, World.cell?_setCell_same _ _ _ hcb2]); clear HB hcb1 hcb2 hfb2; have HB := n0_; clear n0_; have hcb1 := h1_; have hcb2 := h2_; clear h1_ h2_ hw) | (go_at_call 68; (with_reducible refine (impl_Clip.mp k _ _ l0 a1 t3 gb1 gb2 r _ ?side1 ?side2 ?side3 ?side4 C10.out A4.out).mono ?_); (case side1 => repeat (first | exact (Kd.C_below HR0.out (by repeat (first | (with_reducible first | exact HB.out | apply below_alloc | apply pw_below_drewN | apply below_drew1) | exact HB.out))) | (with_reducible refine Kd.C_alloc ?_ _) | (with_reducible refine Kd.C_drewN ?_ _) | (with_reducible refine Kd.C_drew ?_))); (case side2 => exact HC0.out);  (case side3 => exact hcb1); (case side4 => exact hcb2); rintro e w13 ⟨v9, rfl, ho0, hb⟩; have n0_ := Aside0.mk (Kd.R_lower ho0 (below_size (by repeat (first | (with_reducible first | exact HB.out | apply below_alloc | apply pw_below_drewN | apply below_drew1) | exact HB.out)))); have n1_ := Aside0.mk (below_step (by repeat (first | (with_reducible first | exact HB.out | apply below_alloc | apply pw_below_drewN | apply below_drew1) | exact HB.out)) hb); clear HB; have HO9 := n0_; have HB := n1_; clear n0_ n1_; clear hb ho0))
      go_ret
      exact ⟨_, by first | rfl | (simp [*]; done), by (with_reducible repeat (first | apply Kd.R_alloc | apply Kd.R_drewN | apply Kd.R_drew)); exact HO9.out, by repeat (first | (with_reducible first | exact HB.out | apply below_alloc | apply pw_below_drewN | apply below_drew1) | exact HB.out)⟩
    · rw [if_neg c10] at H
      exact absurd H (by simp)

/-! ### laws_FnExactClip: function 8 -/
def laws_FnExactClip.j0 : Nat → List Int → Int → List Int → List Int → Bool → Option (Bool)
  | 0, _, _, _, _, _ => none
  | k + 1, x0, x1, x5, x7, x43 => if x43 = true then (some false) else ((laws_markIntS.f k x7 1).bind fun bt163 => ((laws_heldIntS.f k bt163.2 1).bind fun t165 => (if t165 < 0 then (some false) else (if t165 = bt163.1 then ((laws_toIntS.f k x0).bind fun t166 => ((impl_Clip.f k t166 x1).bind fun t169 => ((laws_eqIntS.f k t169 x5).bind fun t172 => (if t172 = true then ((laws_heldIntS.f k bt163.2 1).bind fun t173 => (if t173 < 0 then (some false) else (if t173 = bt163.1 then (some true) else (some false)))) else (some false))))) else (some false)))))
def laws_FnExactClip.f (k : Nat) (l0 : List Int) (a1 : Int) : Option (Bool) := if (l0.length : Int) > 1048576 then (some true) else ((laws_toIntS.f k l0).bind fun t143 => ((spec_Clip.f k t143 a1).bind fun t146 => ((laws_toIntS.f k l0).bind fun t149 => ((impl_Clip.f k t149 a1).bind fun t152 => ((laws_eqIntS.f k t152 t146).bind fun t155 => (if t155 = true then ((laws_toIntS.f k l0).bind fun t156 => ((laws_eqIntS.f k t149 t156).bind fun t159 => (if t159 = true then ((laws_markIntS.f k t149 1).bind fun bt160 => (if bt160.1 < 0 then (laws_FnExactClip.j0 k l0 a1 t146 t152 true) else ((laws_eqIntS.f k t152 t146).bind fun t162 => (laws_FnExactClip.j0 k l0 a1 t146 t152 (!t162))))) else (some false)))) else (some false)))))))
theorem laws_FnExactClip.mono_l : ∀ k, (∀ y0 y1 y2 y3 y4, LeO (laws_FnExactClip.j0 k y0 y1 y2 y3 y4) (laws_FnExactClip.j0 (k + 1) y0 y1 y2 y3 y4))
  | 0 => fun _ _ _ _ _ r h => by simp [laws_FnExactClip.j0] at h
  | k + 1 => by
    have ih0 := laws_FnExactClip.mono_l k
    · intro y0 y1 y2 y3 y4
      unfold laws_FnExactClip.j0
      repeat' first
      | (with_reducible exact ih0 _ _ _ _ _)
      | (with_reducible exact impl_Clip.mono _ _ _)
      | (with_reducible exact laws_eqIntS.mono _ _ _)
      | (with_reducible exact laws_heldIntS.mono _ _ _)
      | (with_reducible exact laws_markIntS.mono _ _ _)
      | (with_reducible exact laws_toIntS.mono _ _)
      | (with_reducible exact spec_Clip.mono _ _ _)
      | (with_reducible exact LeO.refl _)
      | (with_reducible exact LeO.none _)
      | (with_reducible refine LeO.ite ?_ ?_)
      | (with_reducible refine LeO.bind ?_ (fun _ => ?_))
      | exact ih0 _ _ _ _ _
      | exact impl_Clip.mono _ _ _
      | exact laws_eqIntS.mono _ _ _
      | exact laws_heldIntS.mono _ _ _
      | exact laws_markIntS.mono _ _ _
      | exact laws_toIntS.mono _ _
      | exact spec_Clip.mono _ _ _
      | exact LeO.none _
      | refine LeO.ite ?_ ?_
      | refine LeO.bind ?_ (fun _ => ?_)
theorem laws_FnExactClip.mono : ∀ a0 a1 k, LeO (laws_FnExactClip.f k a0 a1) (laws_FnExactClip.f (k + 1) a0 a1) := by
  intro a0 a1 k
  have ih0 := laws_FnExactClip.mono_l k
  unfold laws_FnExactClip.f
  repeat' first
      | (with_reducible exact ih0 _ _ _ _ _)
      | (with_reducible exact impl_Clip.mono _ _ _)
      | (with_reducible exact laws_eqIntS.mono _ _ _)
      | (with_reducible exact laws_heldIntS.mono _ _ _)
      | (with_reducible exact laws_markIntS.mono _ _ _)
      | (with_reducible exact laws_toIntS.mono _ _)
      | (with_reducible exact spec_Clip.mono _ _ _)
      | (with_reducible exact LeO.refl _)
      | (with_reducible exact LeO.none _)
      | (with_reducible refine LeO.ite ?_ ?_)
      | (with_reducible refine LeO.bind ?_ (fun _ => ?_))
      | exact ih0 _ _ _ _ _
      | exact impl_Clip.mono _ _ _
      | exact laws_eqIntS.mono _ _ _
      | exact laws_heldIntS.mono _ _ _
      | exact laws_markIntS.mono _ _ _
      | exact laws_toIntS.mono _ _
      | exact spec_Clip.mono _ _ _
      | exact LeO.none _
      | refine LeO.ite ?_ ?_
      | refine LeO.bind ?_ (fun _ => ?_)
set_option maxHeartbeats 8000000 in
set_option maxRecDepth 100000 in
theorem laws_FnExactClip.calls (k : Nat) (A0 : Option Addr) (c0 : Nat) (l0 : List Int) (a1 : Int) (r : Bool) (w : World) (hrt : r = true) (hr0 : Kd.C (Kd.int .i64) w A0 l0.length l0) (hc0 : l0.length ≤ c0) (h : laws_FnExactClip.f k l0 a1 = some r) :
    Calls Try.prog 8 #[.slice A0 l0.length c0, .int .i64 a1] w fun e w' => e = .returned (.bool r) ∧ Below w.heap.size w w' := by
  have HRT := Aside0.mk hrt
  clear hrt
  have HR0 := Aside0.mk hr0
  have HC0 := Aside0.mk hc0
  clear hr0 hc0
  have HB := Aside0.mk (Below.refl w.heap.size w)
  have H : (if (l0.length : Int) > 1048576 then (some true) else ((laws_toIntS.f k l0).bind fun t143 => ((spec_Clip.f k t143 a1).bind fun t146 => ((laws_toIntS.f k l0).bind fun t149 => ((impl_Clip.f k t149 a1).bind fun t152 => ((laws_eqIntS.f k t152 t146).bind fun t155 => (if t155 = true then ((laws_toIntS.f k l0).bind fun t156 => ((laws_eqIntS.f k t149 t156).bind fun t159 => (if t159 = true then ((laws_markIntS.f k t149 1).bind fun bt160 => (if bt160.1 < 0 then (laws_FnExactClip.j0 k l0 a1 t146 t152 true) else ((laws_eqIntS.f k t152 t146).bind fun t162 => (laws_FnExactClip.j0 k l0 a1 t146 t152 (!t162))))) else (some false)))) else (some false)))))))) = some r := h
  clear h
  by_cases c3 : (l0.length : Int) > 1048576
  · rw [if_pos c3] at H
    have c3b0 : decide (1048576 < (l0.length : Int)) = true := decide_eq_true c3
    have c3b1 : decide (1048576 < l0.length) = true := decide_eq_true (by omega)
    clear c3
    obtain rfl := Option.some.inj H
    go_enter Try.func8, Try.ntmps8
    go_wp2
    go_ret
    exact ⟨by first | rfl | (simp [errW_none, errW_some] <;> rfl) | (simp [*, errW_none, errW_some] <;> rfl), by repeat (first | (with_reducible first | exact HB.out | apply below_alloc | apply pw_below_drewN | apply below_drew1) | exact HB.out)⟩
  · rw [if_neg c3] at H
    have c3b0 : decide (1048576 < (l0.length : Int)) = false := decide_eq_false c3
    have c3b1 : decide (1048576 < l0.length) = false := decide_eq_false (by omega)
    clear c3
    replace H := Option.bind_eq_some_iff.mp H
    obtain ⟨t143, A40, H⟩ := H
    replace H : ((spec_Clip.f k t143 a1).bind fun t146 => ((laws_toIntS.f k l0).bind fun t149 => ((impl_Clip.f k t149 a1).bind fun t152 => ((laws_eqIntS.f k t152 t146).bind fun t155 => (if t155 = true then ((laws_toIntS.f k l0).bind fun t156 => ((laws_eqIntS.f k t149 t156).bind fun t159 => (if t159 = true then ((laws_markIntS.f k t149 1).bind fun bt160 => (if bt160.1 < 0 then (laws_FnExactClip.j0 k l0 a1 t146 t152 true) else ((laws_eqIntS.f k t152 t146).bind fun t162 => (laws_FnExactClip.j0 k l0 a1 t146 t152 (!t162))))) else (some false)))) else (some false)))))) = some r := H
    have A4 := Aside0.mk A40
    clear A40
    replace H := Option.bind_eq_some_iff.mp H
    obtain ⟨t146, A50, H⟩ := H
    replace H : ((laws_toIntS.f k l0).bind fun t149 => ((impl_Clip.f k t149 a1).bind fun t152 => ((laws_eqIntS.f k t152 t146).bind fun t155 => (if t155 = true then ((laws_toIntS.f k l0).bind fun t156 => ((laws_eqIntS.f k t149 t156).bind fun t159 => (if t159 = true then ((laws_markIntS.f k t149 1).bind fun bt160 => (if bt160.1 < 0 then (laws_FnExactClip.j0 k l0 a1 t146 t152 true) else ((laws_eqIntS.f k t152 t146).bind fun t162 => (laws_FnExactClip.j0 k l0 a1 t146 t152 (!t162))))) else (some false)))) else (some false))))) = some r := H
    have A5 := Aside0.mk A50
    clear A50
    replace H := Option.bind_eq_some_iff.mp H
    obtain ⟨t149, A60, H⟩ := H
    replace H : ((impl_Clip.f k t149 a1).bind fun t152 => ((laws_eqIntS.f k t152 t146).bind fun t155 => (if t155 = true then ((laws_toIntS.f k l0).bind fun t156 => ((laws_eqIntS.f k t149 t156).bind fun t159 => (if t159 = true then ((laws_markIntS.f k t149 1).bind fun bt160 => (if bt160.1 < 0 then (laws_FnExactClip.j0 k l0 a1 t146 t152 true) else ((laws_eqIntS.f k t152 t146).bind fun t162 => (laws_FnExactClip.j0 k l0 a1 t146 t152 (!t162))))) else (some false)))) else (some false)))) = some r := H
    have A6 := Aside0.mk A60
    clear A60
    replace H := Option.bind_eq_some_iff.mp H
    obtain ⟨t152, A70, H⟩ := H
    replace H : ((laws_eqIntS.f k t152 t146).bind fun t155 => (if t155 = true then ((laws_toIntS.f k l0).bind fun t156 => ((laws_eqIntS.f k t149 t156).bind fun t159 => (if t159 = true then ((laws_markIntS.f k t149 1).bind fun bt160 => (if bt160.1 < 0 then (laws_FnExactClip.j0 k l0 a1 t146 t152 true) else ((laws_eqIntS.f k t152 t146).bind fun t162 => (laws_FnExactClip.j0 k l0 a1 t146 t152 (!t162))))) else (some false)))) else (some false))) = some r := H
    have A7 := Aside0.mk A70
    clear A70
    replace H := Option.bind_eq_some_iff.mp H
    obtain ⟨t155, A80, H⟩ := H
    replace H : (if t155 = true then ((laws_toIntS.f k l0).bind fun t156 => ((laws_eqIntS.f k t149 t156).bind fun t159 => (if t159 = true then ((laws_markIntS.f k t149 1).bind fun bt160 => (if bt160.1 < 0 then (laws_FnExactClip.j0 k l0 a1 t146 t152 true) else ((laws_eqIntS.f k t152 t146).bind fun t162 => (laws_FnExactClip.j0 k l0 a1 t146 t152 (!t162))))) else (some false)))) else (some false)) = some r := H
    have A8 := Aside0.mk A80
    clear A80
    by_cases c9 : t155 = true
    · subst c9
      have H1 : ((laws_toIntS.f k l0).bind fun t156 => ((laws_eqIntS.f k t149 t156).bind fun t159 => (if t159 = true then ((laws_markIntS.f k t149 1).bind fun bt160 => (if bt160.1 < 0 then (laws_FnExactClip.j0 k l0 a1 t146 t152 true) else ((laws_eqIntS.f k t152 t146).bind fun t162 => (laws_FnExactClip.j0 k l0 a1 t146 t152 (!t162))))) else (some false)))) = some r := by rw [if_pos rfl] at H; exact H
      clear H
      have H := H1
      clear H1
      replace H := Option.bind_eq_some_iff.mp H
      obtain ⟨t156, A100, H⟩ := H
      replace H : ((laws_eqIntS.f k t149 t156).bind fun t159 => (if t159 = true then ((laws_markIntS.f k t149 1).bind fun bt160 => (if bt160.1 < 0 then (laws_FnExactClip.j0 k l0 a1 t146 t152 true) else ((laws_eqIntS.f k t152 t146).bind fun t162 => (laws_FnExactClip.j0 k l0 a1 t146 t152 (!t162))))) else (some false))) = some r := H
      have A10 := Aside0.mk A100
      clear A100
      replace H := Option.bind_eq_some_iff.mp H
      obtain ⟨t159, A110, H⟩ := H
      replace H : (if t159 = true then ((laws_markIntS.f k t149 1).bind fun bt160 => (if bt160.1 < 0 then (laws_FnExactClip.j0 k l0 a1 t146 t152 true) else ((laws_eqIntS.f k t152 t146).bind fun t162 => (laws_FnExactClip.j0 k l0 a1 t146 t152 (!t162))))) else (some false)) = some r := H
      have A11 := Aside0.mk A110
      clear A110
      by_cases c12 : t159 = true
      · subst c12
        have H1 : ((laws_markIntS.f k t149 1).bind fun bt160 => (if bt160.1 < 0 then (laws_FnExactClip.j0 k l0 a1 t146 t152 true) else ((laws_eqIntS.f k t152 t146).bind fun t162 => (laws_FnExactClip.j0 k l0 a1 t146 t152 (!t162))))) = some r := by rw [if_pos rfl] at H; exact H
        clear H
        have H := H1
        clear H1
        replace H := Option.bind_eq_some_iff.mp H
        obtain ⟨⟨t160, t161⟩, A130, H⟩ := H
        replace H : (if t160 < 0 then (laws_FnExactClip.j0 k l0 a1 t146 t152 true) else ((laws_eqIntS.f k t152 t146).bind fun t162 => (laws_FnExactClip.j0 k l0 a1 t146 t152 (!t162)))) = some r := H
        have A13 := Aside0.mk A130
        clear A130
        have HC14 := Aside0.mk H
        clear H
        go_enter Try.func8, Try.ntmps8
        go_upto_region 12 with (first | ((with_reducible refine gate_callee (f := 13) rfl ?_); refine goesL_ (some 16) rfl rfl Try.func13 (by kernel_rfl) rfl #[.slice A0 l0.length c0] rfl (by (try simp only [List.map_toArray, List.map_cons, List.map_nil]); first | done | rfl | (simp only [List.length_drop, List.length_take]; rfl)) ?_; (with_reducible refine (laws_toIntS.calls k _ _ l0 t143 _ ?side1 ?side2 A4.out).mono ?_); (case side1 => repeat (first | exact HR0.out | (with_reducible refine Kd.C_alloc ?_ _) | (with_reducible refine Kd.C_drewN ?_ _) | (with_reducible refine Kd.C_drew ?_))); (case side2 => exact HC0.out); rintro e w15 ⟨v144, rfl, ho0, hb⟩; refine ⟨_, rfl, ?_⟩; have n0_ := Aside0.mk (Kd.R_lower ho0 (below_size (by repeat (first | (with_reducible first | exact HB.out | apply below_alloc | apply pw_below_drewN | apply below_drew1) | exact HB.out)))); have n1_ := Aside0.mk (below_step (by repeat (first | (with_reducible first | exact HB.out | apply below_alloc | apply pw_below_drewN | apply below_drew1) | exact HB.out)) hb); clear HB; have HO145 := n0_; have HB := n1_; clear n0_ n1_; (try clear hb); (try clear hb2); (try clear hk); (try clear hi); (try clear ho0); obtain ⟨Ao16, co16, eo16⟩ := Kd.R_slice HO145.out; subst eo16) | ((with_reducible refine gate_callee (f := 30) rfl ?_); refine goesL_ (some 18) rfl rfl Try.func30 (by kernel_rfl) rfl #[.slice Ao16 t143.length co16, .int .i64 a1] rfl (by (try simp only [List.map_toArray, List.map_cons, List.map_nil]); first | done | rfl | (simp only [List.length_drop, List.length_take]; rfl)) ?_; (with_reducible refine (spec_Clip.calls k _ _ t143 a1 t146 _ ?side1 ?side2 A5.out).mono ?_); (case side1 => repeat (first | exact (Kd.R_reads' HO145.out).2.2 | (with_reducible refine Kd.C_alloc ?_ _) | (with_reducible refine Kd.C_drewN ?_ _) | (with_reducible refine Kd.C_drew ?_))); (case side2 => exact (Kd.R_reads' HO145.out).2.1); rintro e w17 ⟨v147, rfl, ho0, hb⟩; refine ⟨_, rfl, ?_⟩; have n0_ := Aside0.mk (Kd.R_elder' (by (with_reducible repeat (first | apply Kd.R_alloc | apply Kd.R_drewN | apply Kd.R_drew)); exact HO145.out) (Kd.R_base ho0) hb); have n1_ := Aside0.mk (Kd.R_lower (Kd.R_new' ho0 (Kd.R_lt (by (with_reducible repeat (first | apply Kd.R_alloc | apply Kd.R_drewN | apply Kd.R_drew)); exact HO145.out))) (below_size (by repeat (first | (with_reducible first | exact HB.out | apply below_alloc | apply pw_below_drewN | apply below_drew1) | exact HB.out)))); have n2_ := Aside0.mk (below_step (by repeat (first | (with_reducible first | exact HB.out | apply below_alloc | apply pw_below_drewN | apply below_drew1) | exact HB.out)) hb); clear HO145; clear HB; have HO145 := n0_; have HO148 := n1_; have HB := n2_; clear n0_ n1_ n2_; (try clear hb); (try clear hb2); (try clear hk); (try clear hi); (try clear ho0)) | ((with_reducible refine gate_callee (f := 13) rfl ?_); refine goesL_ (some 20) rfl rfl Try.func13 (by kernel_rfl) rfl #[.slice A0 l0.length c0] rfl (by (try simp only [List.map_toArray, List.map_cons, List.map_nil]); first | done | rfl | (simp only [List.length_drop, List.length_take]; rfl)) ?_; (with_reducible refine (laws_toIntS.calls k _ _ l0 t149 _ ?side1 ?side2 A6.out).mono ?_); (case side1 => repeat (first | exact (Kd.C_below HR0.out HB.out) | (with_reducible refine Kd.C_alloc ?_ _) | (with_reducible refine Kd.C_drewN ?_ _) | (with_reducible refine Kd.C_drew ?_))); (case side2 => exact HC0.out); rintro e w18 ⟨v150, rfl, ho0, hb⟩; refine ⟨_, rfl, ?_⟩; have n0_ := Aside0.mk (Kd.R_elder' (by (with_reducible repeat (first | apply Kd.R_alloc | apply Kd.R_drewN | apply Kd.R_drew)); exact HO145.out) (Kd.R_base ho0) hb); have n1_ := Aside0.mk (Kd.R_elder' (by (with_reducible repeat (first | apply Kd.R_alloc | apply Kd.R_drewN | apply Kd.R_drew)); exact HO148.out) (Kd.R_base ho0) hb); have n2_ := Aside0.mk (Kd.R_lower (Kd.R_new' (Kd.R_new' ho0 (Kd.R_lt (by (with_reducible repeat (first | apply Kd.R_alloc | apply Kd.R_drewN | apply Kd.R_drew)); exact HO145.out))) (Kd.R_lt (by (with_reducible repeat (first | apply Kd.R_alloc | apply Kd.R_drewN | apply Kd.R_drew)); exact HO148.out))) (below_size (by repeat (first | (with_reducible first | exact HB.out | apply below_alloc | apply pw_below_drewN | apply below_drew1) | exact HB.out)))); have n3_ := Aside0.mk (below_step (by repeat (first | (with_reducible first | exact HB.out | apply below_alloc | apply pw_below_drewN | apply below_drew1) | exact HB.out)) hb); clear HO145; clear HO148; clear HB; have HO145 := n0_; have HO148 := n1_; have HO151 := n2_; have HB := n3_; clear n0_ n1_ n2_ n3_; (try clear hb); (try clear hb2); (try clear hk); (try clear hi); (try clear ho0); obtain ⟨Ao19, co19, eo19⟩ := Kd.R_slice HO151.out; subst eo19) | ((with_reducible refine gate_callee (f := 31) rfl ?_); refine goesL_ (some 23) rfl rfl Try.func31 (by kernel_rfl) rfl #[.slice Ao19 t149.length co19, .int .i64 a1] rfl (by (try simp only [List.map_toArray, List.map_cons, List.map_nil]); first | done | rfl | (simp only [List.length_drop, List.length_take]; rfl)) ?_; (with_reducible refine (impl_Clip.calls k _ _ t149 a1 t152 _ ?side1 ?side2 A7.out).mono ?_); (case side1 => repeat (first | exact (Kd.R_reads' HO151.out).2.2 | (with_reducible refine Kd.C_alloc ?_ _) | (with_reducible refine Kd.C_drewN ?_ _) | (with_reducible refine Kd.C_drew ?_))); (case side2 => exact (Kd.R_reads' HO151.out).2.1); rintro e w20 ⟨v153, rfl, ho0, hb⟩; refine ⟨_, rfl, ?_⟩; have n0_ := Aside0.mk (Kd.R_elder' (by (with_reducible repeat (first | apply Kd.R_alloc | apply Kd.R_drewN | apply Kd.R_drew)); exact HO145.out) (Kd.R_base ho0) hb); have n1_ := Aside0.mk (Kd.R_elder' (by (with_reducible repeat (first | apply Kd.R_alloc | apply Kd.R_drewN | apply Kd.R_drew)); exact HO148.out) (Kd.R_base ho0) hb); have n2_ := Aside0.mk (Kd.R_elder' (by (with_reducible repeat (first | apply Kd.R_alloc | apply Kd.R_drewN | apply Kd.R_drew)); exact HO151.out) (Kd.R_base ho0) hb); have n3_ := Aside0.mk (Kd.R_lower (Kd.R_new' (Kd.R_new' (Kd.R_new' ho0 (Kd.R_lt (by (with_reducible repeat (first | apply Kd.R_alloc | apply Kd.R_drewN | apply Kd.R_drew)); exact HO145.out))) (Kd.R_lt (by (with_reducible repeat (first | apply Kd.R_alloc | apply Kd.R_drewN | apply Kd.R_drew)); exact HO148.out))) (Kd.R_lt (by (with_reducible repeat (first | apply Kd.R_alloc | apply Kd.R_drewN | apply Kd.R_drew)); exact HO151.out))) (below_size (by repeat (first | (with_reducible first | exact HB.out | apply below_alloc | apply pw_below_drewN | apply below_drew1) | exact HB.out)))); have n4_ := Aside0.mk (below_step (by repeat (first | (with_reducible first | exact HB.out | apply below_alloc | apply pw_below_drewN | apply below_drew1) | exact HB.out)) hb); clear HO145; clear HO148; clear HO151; clear HB; have HO145 := n0_; have HO148 := n1_; have HO151 := n2_; have HO154 := n3_; have HB := n4_; clear n0_ n1_ n2_ n3_ n4_; (try clear hb); (try clear hb2); (try clear hk); (try clear hi); (try clear ho0); obtain ⟨Ao21, co21, eo21⟩ := Kd.R_slice HO154.out; subst eo21; obtain ⟨Ao22, co22, eo22⟩ := Kd.R_slice HO148.out; subst eo22) | ((with_reducible refine gate_callee (f := 15) rfl ?_); refine goesL_ (some 26) rfl rfl Try.func15 (by kernel_rfl) rfl #[.slice Ao21 t152.length co21, .slice Ao22 t146.length co22] rfl (by (try simp only [List.map_toArray, List.map_cons, List.map_nil]); first | done | rfl | (simp only [List.length_drop, List.length_take]; rfl)) ?_; (with_reducible refine (laws_eqIntS.calls k _ _ t152 _ _ t146 true _ ?side1 ?side2 ?side3 ?side4 A8.out).mono ?_); (case side1 => repeat (first | exact (Kd.R_reads' HO154.out).2.2 | (with_reducible refine Kd.C_alloc ?_ _) | (with_reducible refine Kd.C_drewN ?_ _) | (with_reducible refine Kd.C_drew ?_))); (case side2 => exact (Kd.R_reads' HO154.out).2.1); (case side3 => repeat (first | exact (Kd.R_reads' HO148.out).2.2 | (with_reducible refine Kd.C_alloc ?_ _) | (with_reducible refine Kd.C_drewN ?_ _) | (with_reducible refine Kd.C_drew ?_))); (case side4 => exact (Kd.R_reads' HO148.out).2.1); rintro e w' ⟨rfl, ⟨nd, rfl⟩⟩; refine ⟨_, rfl, ?_⟩) | ((with_reducible refine gate_callee (f := 13) rfl ?_); refine goesL_ (some 30) rfl rfl Try.func13 (by kernel_rfl) rfl #[.slice A0 l0.length c0] rfl (by (try simp only [List.map_toArray, List.map_cons, List.map_nil]); first | done | rfl | (simp only [List.length_drop, List.length_take]; rfl)) ?_; (with_reducible refine (laws_toIntS.calls k _ _ l0 t156 _ ?side1 ?side2 A10.out).mono ?_); (case side1 => repeat (first | exact (Kd.C_below HR0.out (by repeat (first | (with_reducible first | exact HB.out | apply below_alloc | apply pw_below_drewN | apply below_drew1) | exact HB.out))) | (with_reducible refine Kd.C_alloc ?_ _) | (with_reducible refine Kd.C_drewN ?_ _) | (with_reducible refine Kd.C_drew ?_))); (case side2 => exact HC0.out); rintro e w23 ⟨v157, rfl, ho0, hb⟩; refine ⟨_, rfl, ?_⟩; have n0_ := Aside0.mk (Kd.R_elder' (by (with_reducible repeat (first | apply Kd.R_alloc | apply Kd.R_drewN | apply Kd.R_drew)); exact HO145.out) (Kd.R_base ho0) hb); have n1_ := Aside0.mk (Kd.R_elder' (by (with_reducible repeat (first | apply Kd.R_alloc | apply Kd.R_drewN | apply Kd.R_drew)); exact HO148.out) (Kd.R_base ho0) hb); have n2_ := Aside0.mk (Kd.R_elder' (by (with_reducible repeat (first | apply Kd.R_alloc | apply Kd.R_drewN | apply Kd.R_drew)); exact HO151.out) (Kd.R_base ho0) hb); have n3_ := Aside0.mk (Kd.R_elder' (by (with_reducible repeat (first | apply Kd.R_alloc | apply Kd.R_drewN | apply Kd.R_drew)); exact HO154.out) (Kd.R_base ho0) hb); have n4_ := Aside0.mk (Kd.R_lower (Kd.R_new' (Kd.R_new' (Kd.R_new' (Kd.R_new' ho0 (Kd.R_lt (by (with_reducible repeat (first | apply Kd.R_alloc | apply Kd.R_drewN | apply Kd.R_drew)); exact HO145.out))) (Kd.R_lt (by (with_reducible repeat (first | apply Kd.R_alloc | apply Kd.R_drewN | apply Kd.R_drew)); exact HO148.out))) (Kd.R_lt (by (with_reducible repeat (first | apply Kd.R_alloc | apply Kd.R_drewN | apply Kd.R_drew)); exact HO151.out))) (Kd.R_lt (by (with_reducible repeat (first | apply Kd.R_alloc | apply Kd.R_drewN | apply Kd.R_drew)); exact HO154.out))) (below_size (by repeat (first | (with_reducible first | exact HB.out | apply below_alloc | apply pw_below_drewN | apply below_drew1) | exact HB.out)))); have n5_ := Aside0.mk (below_step (by repeat (first | (with_reducible first | exact HB.out | apply below_alloc | apply pw_below_drewN | apply below_drew1) | exact HB.out)) hb); clear HO145; clear HO148; clear HO151; clear HO154; clear HB; have HO145 := n0_; have HO148 := n1_; have HO151 := n2_; have HO154 := n3_; have HO158 := n4_; have HB := n5_; clear n0_ n1_ n2_ n3_ n4_ n5_; (try clear hb); (try clear hb2); (try clear hk); (try clear hi); (try clear ho0); obtain ⟨Ao24, co24, eo24⟩ := Kd.R_slice HO158.out; subst eo24) | ((with_reducible refine gate_callee (f := 15) rfl ?_); refine goesL_ (some 31) rfl rfl Try.func15 (by kernel_rfl) rfl #[.slice Ao19 t149.length co19, .slice Ao24 t156.length co24] rfl (by (try simp only [List.map_toArray, List.map_cons, List.map_nil]); first | done | rfl | (simp only [List.length_drop, List.length_take]; rfl)) ?_; (with_reducible refine (laws_eqIntS.calls k _ _ t149 _ _ t156 true _ ?side1 ?side2 ?side3 ?side4 A11.out).mono ?_); (case side1 => repeat (first | exact (Kd.R_reads' HO151.out).2.2 | (with_reducible refine Kd.C_alloc ?_ _) | (with_reducible refine Kd.C_drewN ?_ _) | (with_reducible refine Kd.C_drew ?_))); (case side2 => exact (Kd.R_reads' HO151.out).2.1); (case side3 => repeat (first | exact (Kd.R_reads' HO158.out).2.2 | (with_reducible refine Kd.C_alloc ?_ _) | (with_reducible refine Kd.C_drewN ?_ _) | (with_reducible refine Kd.C_drew ?_))); (case side4 => exact (Kd.R_reads' HO158.out).2.1); rintro e w' ⟨rfl, ⟨nd, rfl⟩⟩; refine ⟨_, rfl, ?_⟩) | ((with_reducible refine gate_callee (f := 16) rfl ?_); refine goesL_ (some 35) rfl rfl Try.func16 (by kernel_rfl) rfl #[.slice Ao19 t149.length co19, .int .i64 1] rfl (by (try simp only [List.map_toArray, List.map_cons, List.map_nil]); first | done | rfl | (simp only [List.length_drop, List.length_take]; rfl)) ?_; (with_reducible refine (laws_markIntS.calls k (fun k_ => some k_ = (.slice Ao19 t149.length co19 : Value).ownBlock) (.slice Ao19 t149.length co19) t149 1 t160 t161 w _ ?side1 ?side2 A13.out).mono ?_); (case side1 => repeat (first | (with_reducible first | exact HB.out | apply below_alloc | apply pw_below_drewN | apply below_drew1) | exact HB.out)); (case side2 => exact Kd.R_tight rfl HO151.out); rintro e w25 ⟨rfl, hy0, hb, hkp⟩; refine ⟨_, rfl, ?_⟩; have n0_ := Aside0.mk (Kd.R_mono (ok' := fun k_ => some k_ ≠ (.slice Ao22 t146.length co22 : Value).ownBlock ∧ some k_ ≠ (.slice Ao19 t149.length co19 : Value).ownBlock ∧ some k_ ≠ (.slice Ao21 t152.length co21 : Value).ownBlock ∧ some k_ ≠ (.slice Ao24 t156.length co24 : Value).ownBlock) (Kd.R_keptB (HO145.out) hkp (fun k_ hk_ hs_ => (hk_.1.1.2) hs_)) (fun k_ hk_ => ⟨hk_.1.1.1.1.2, hk_.1.1.1.2, hk_.1.1.2, hk_.1.2⟩)); have n1_ := Aside0.mk (Kd.R_mono (ok' := fun k_ => some k_ ≠ (.slice Ao16 t143.length co16 : Value).ownBlock ∧ some k_ ≠ (.slice Ao19 t149.length co19 : Value).ownBlock ∧ some k_ ≠ (.slice Ao21 t152.length co21 : Value).ownBlock ∧ some k_ ≠ (.slice Ao24 t156.length co24 : Value).ownBlock) (Kd.R_keptB (HO148.out) hkp (fun k_ hk_ hs_ => (hk_.1.1.2) hs_)) (fun k_ hk_ => ⟨hk_.1.1.1.1.2, hk_.1.1.1.2, hk_.1.1.2, hk_.1.2⟩)); have n2_ := Aside0.mk (Kd.R_reok rfl hy0 (fun k_ e_ => HO151.out.1 k_ e_)); have n3_ := Aside0.mk (Kd.R_mono (ok' := fun k_ => some k_ ≠ (.slice Ao16 t143.length co16 : Value).ownBlock ∧ some k_ ≠ (.slice Ao22 t146.length co22 : Value).ownBlock ∧ some k_ ≠ (.slice Ao19 t149.length co19 : Value).ownBlock ∧ some k_ ≠ (.slice Ao24 t156.length co24 : Value).ownBlock) (Kd.R_keptB (HO154.out) hkp (fun k_ hk_ hs_ => (hk_.1.2) hs_)) (fun k_ hk_ => ⟨hk_.1.1.1.1.2, hk_.1.1.1.2, hk_.1.1.2, hk_.1.2⟩)); have n4_ := Aside0.mk (Kd.R_mono (ok' := fun k_ => some k_ ≠ (.slice Ao16 t143.length co16 : Value).ownBlock ∧ some k_ ≠ (.slice Ao22 t146.length co22 : Value).ownBlock ∧ some k_ ≠ (.slice Ao19 t149.length co19 : Value).ownBlock ∧ some k_ ≠ (.slice Ao21 t152.length co21 : Value).ownBlock) (Kd.R_keptB (HO158.out) hkp (fun k_ hk_ hs_ => (hk_.1.2) hs_)) (fun k_ hk_ => ⟨hk_.1.1.1.1.2, hk_.1.1.1.2, hk_.1.1.2, hk_.1.2⟩)); have n5_ := Aside0.mk (hb); clear HO145; clear HO148; clear HO151; clear HO154; clear HO158; clear HB; have HO145 := n0_; have HO148 := n1_; have HO151 := n2_; have HO154 := n3_; have HO158 := n4_; have HB := n5_; clear n0_ n1_ n2_ n3_ n4_ n5_; (try clear hb); (try clear hkp); (try clear hy0)))
        (try simp only [Act.put, List.setIfInBounds_toArray, List.set_cons_zero, List.set_cons_succ])
        go_cut [43] (fun v43 wc => ∃ (kq : Nat) (x43_13 : Bool), v43 = .bool x43_13 ∧ Aside0 (laws_FnExactClip.j0 kq l0 a1 t146 t152 x43_13 = some r) ∧ Aside0 (kq ≤ k) ∧ Aside0 (Kd.R (Kd.int .i64) 3 wc w.heap.size (fun k_ => some k_ ≠ ((.slice Ao21 t152.length co21) : Value).ownBlock) (.slice Ao22 t146.length co22) t146) ∧ Aside0 (Kd.R (Kd.int .i64) 3 wc w.heap.size (fun k_ => some k_ ≠ ((.slice Ao22 t146.length co22) : Value).ownBlock) (.slice Ao21 t152.length co21) t152) ∧ Aside0 (Below w.heap.size w wc))
        case first =>
          have H := HC14.out
          clear HC14
          by_cases c26 : t160 < 0
          · rw [if_pos c26] at H
            have c26b0 : decide (t160 < 0) = true := decide_eq_true c26
            clear c26
            (first | rw [c26b0] | (simp only [i64_w, i32_w]; rw [c26b0]) | skip)
            have H' := Aside0.mk H
            clear H
            go_wp2
            go_meet
            case rel => exact ⟨_, (true), (by first | rfl | (simp; done) | (simp [*]; done)), H', ⟨by first | omega | exact Nat.le_refl _⟩, ⟨by (with_reducible repeat (first | apply Kd.R_alloc | apply Kd.R_drewN | apply Kd.R_drew)); exact Kd.R_mono HO148.out (fun _ hk => hk.2.2.1)⟩, ⟨by (with_reducible repeat (first | apply Kd.R_alloc | apply Kd.R_drewN | apply Kd.R_drew)); exact Kd.R_mono HO154.out (fun _ hk => hk.2.1)⟩, ⟨by repeat (first | (with_reducible first | exact HB.out | apply below_alloc | apply pw_below_drewN | apply below_drew1) | exact HB.out)⟩⟩
          · rw [if_neg c26] at H
            have c26b0 : decide (t160 < 0) = false := decide_eq_false c26
            clear c26
            (first | rw [c26b0] | (simp only [i64_w, i32_w]; rw [c26b0]) | skip)
            replace H := Option.bind_eq_some_iff.mp H
            obtain ⟨t162, A270, H⟩ := H
            replace H : (laws_FnExactClip.j0 k l0 a1 t146 t152 (!t162)) = some r := H
            have A27 := Aside0.mk A270
            clear A270
            have H' := Aside0.mk H
            clear H
            go_wp2_with (first | (go_at_call 15; (with_reducible refine (laws_eqIntS.calls k _ _ t152 _ _ t146 t162 _ ?side1 ?side2 ?side3 ?side4 A27.out).mono ?_); (case side1 => repeat (first | exact (Kd.R_reads' HO154.out).2.2 | (with_reducible refine Kd.C_alloc ?_ _) | (with_reducible refine Kd.C_drewN ?_ _) | (with_reducible refine Kd.C_drew ?_))); (case side2 => exact (Kd.R_reads' HO154.out).2.1); (case side3 => repeat (first | exact (Kd.R_reads' HO148.out).2.2 | (with_reducible refine Kd.C_alloc ?_ _) | (with_reducible refine Kd.C_drewN ?_ _) | (with_reducible refine Kd.C_drew ?_))); (case side4 => exact (Kd.R_reads' HO148.out).2.1); rintro e w' ⟨rfl, ⟨nd, rfl⟩⟩))
            go_meet
            case rel => exact ⟨_, (!t162), (by first | rfl | (simp; done) | (simp [*]; done)), H', ⟨by first | omega | exact Nat.le_refl _⟩, ⟨by (with_reducible repeat (first | apply Kd.R_alloc | apply Kd.R_drewN | apply Kd.R_drew)); exact Kd.R_mono HO148.out (fun _ hk => hk.2.2.1)⟩, ⟨by (with_reducible repeat (first | apply Kd.R_alloc | apply Kd.R_drewN | apply Kd.R_drew)); exact Kd.R_mono HO154.out (fun _ hk => hk.2.1)⟩, ⟨by repeat (first | (with_reducible first | exact HB.out | apply below_alloc | apply pw_below_drewN | apply below_drew1) | exact HB.out)⟩⟩
        case rest =>
          clear HC14
          try clear c1
          try clear c2
          try clear p2
          try clear c3
          try clear c3b0
          try clear c3b1
          try clear c8
          try clear c9
          try clear c12
          try clear c13
          try clear c15
          try clear c16
          try clear c26
          try clear c26b0
          obtain ⟨kq, x43_13, rfl, HA, HJ13, HO_5, HO_7, HB⟩ := hcut
          cases kq with
          | zero => exact absurd HA.out (by simp [laws_FnExactClip.j0])
          | succ kj13 =>
            have H := HA.out
            clear HA
            simp only [laws_FnExactClip.j0] at H
            by_cases c28 : x43_13 = true
            · subst c28
              have H1 : (some false) = some r := by rw [if_pos rfl] at H; exact H
              clear H
              have H := H1
              clear H1
              rw [HRT.out] at H
              exact absurd H (by simp)
            · replace c28 := Bool.eq_false_iff.mpr c28
              subst c28
              have H1 : ((laws_markIntS.f kj13 t152 1).bind fun bt163 => ((laws_heldIntS.f kj13 bt163.2 1).bind fun t165 => (if t165 < 0 then (some false) else (if t165 = bt163.1 then ((laws_toIntS.f kj13 l0).bind fun t166 => ((impl_Clip.f kj13 t166 a1).bind fun t169 => ((laws_eqIntS.f kj13 t169 t146).bind fun t172 => (if t172 = true then ((laws_heldIntS.f kj13 bt163.2 1).bind fun t173 => (if t173 < 0 then (some false) else (if t173 = bt163.1 then (some true) else (some false)))) else (some false))))) else (some false))))) = some r := by rw [if_neg (show ¬ (false = true) by decide)] at H; exact H
              clear H
              have H := H1
              clear H1
              replace H := Option.bind_eq_some_iff.mp H
              obtain ⟨⟨t163, t164⟩, A290, H⟩ := H
              replace H : ((laws_heldIntS.f kj13 t164 1).bind fun t165 => (if t165 < 0 then (some false) else (if t165 = t163 then ((laws_toIntS.f kj13 l0).bind fun t166 => ((impl_Clip.f kj13 t166 a1).bind fun t169 => ((laws_eqIntS.f kj13 t169 t146).bind fun t172 => (if t172 = true then ((laws_heldIntS.f kj13 t164 1).bind fun t173 => (if t173 < 0 then (some false) else (if t173 = t163 then (some true) else (some false)))) else (some false))))) else (some false)))) = some r := H
              have A29 := Aside0.mk A290
              clear A290
              replace H := Option.bind_eq_some_iff.mp H
              obtain ⟨t165, A300, H⟩ := H
              replace H : (if t165 < 0 then (some false) else (if t165 = t163 then ((laws_toIntS.f kj13 l0).bind fun t166 => ((impl_Clip.f kj13 t166 a1).bind fun t169 => ((laws_eqIntS.f kj13 t169 t146).bind fun t172 => (if t172 = true then ((laws_heldIntS.f kj13 t164 1).bind fun t173 => (if t173 < 0 then (some false) else (if t173 = t163 then (some true) else (some false)))) else (some false))))) else (some false))) = some r := H
              have A30 := Aside0.mk A300
              clear A300
              by_cases c31 : t165 < 0
              · rw [if_pos c31] at H
                have c31b0 : decide (t165 < 0) = true := decide_eq_true c31
                clear c31
                rw [HRT.out] at H
                exact absurd H (by simp)
              · rw [if_neg c31] at H
                have c31b0 : decide (t165 < 0) = false := decide_eq_false c31
                clear c31
                by_cases c32 : t165 = t163
                · rw [if_pos c32] at H
                  have c32b0 : (t165 == t163) = true := beq_iff_eq.mpr c32
                  have c32b1 : (t165 != t163) = false := bne_eq_false_iff_eq.mpr c32
                  clear c32
                  replace H := Option.bind_eq_some_iff.mp H
                  obtain ⟨t166, A330, H⟩ := H
                  replace H : ((impl_Clip.f kj13 t166 a1).bind fun t169 => ((laws_eqIntS.f kj13 t169 t146).bind fun t172 => (if t172 = true then ((laws_heldIntS.f kj13 t164 1).bind fun t173 => (if t173 < 0 then (some false) else (if t173 = t163 then (some true) else (some false)))) else (some false)))) = some r := H
                  have A33 := Aside0.mk A330
                  clear A330
                  replace H := Option.bind_eq_some_iff.mp H
                  obtain ⟨t169, A340, H⟩ := H
                  replace H : ((laws_eqIntS.f kj13 t169 t146).bind fun t172 => (if t172 = true then ((laws_heldIntS.f kj13 t164 1).bind fun t173 => (if t173 < 0 then (some false) else (if t173 = t163 then (some true) else (some false)))) else (some false))) = some r := H
                  have A34 := Aside0.mk A340
                  clear A340
                  replace H := Option.bind_eq_some_iff.mp H
                  obtain ⟨t172, A350, H⟩ := H
                  replace H : (if t172 = true then ((laws_heldIntS.f kj13 t164 1).bind fun t173 => (if t173 < 0 then (some false) else (if t173 = t163 then (some true) else (some false)))) else (some false)) = some r := H
                  have A35 := Aside0.mk A350
                  clear A350
                  by_cases c36 : t172 = true
                  · subst c36
                    have H1 : ((laws_heldIntS.f kj13 t164 1).bind fun t173 => (if t173 < 0 then (some false) else (if t173 = t163 then (some true) else (some false)))) = some r := by rw [if_pos rfl] at H; exact H
                    clear H
                    have H := H1
                    clear H1
                    replace H := Option.bind_eq_some_iff.mp H
                    obtain ⟨t173, A370, H⟩ := H
                    replace H : (if t173 < 0 then (some false) else (if t173 = t163 then (some true) else (some false))) = some r := H
                    have A37 := Aside0.mk A370
                    clear A370
                    by_cases c38 : t173 < 0
                    · rw [if_pos c38] at H
                      have c38b0 : decide (t173 < 0) = true := decide_eq_true c38
                      clear c38
                      rw [HRT.out] at H
                      exact absurd H (by simp)
                    · rw [if_neg c38] at H
                      have c38b0 : decide (t173 < 0) = false := decide_eq_false c38
                      clear c38
                      by_cases c39 : t173 = t163
                      · rw [if_pos c39] at H
                        have c39b0 : (t173 == t163) = true := beq_iff_eq.mpr c39
                        have c39b1 : (t173 != t163) = false := bne_eq_false_iff_eq.mpr c39
                        clear c39
                        obtain rfl := Option.some.inj H
                        go_wp2_with (first | ((with_reducible refine gate_callee (f := 16) rfl ?_); refine goesL_ (some 46) rfl rfl Try.func16 (by kernel_rfl) rfl #[.slice Ao21 t152.length co21, .int .i64 1] rfl (by (try simp only [List.map_toArray, List.map_cons, List.map_nil]); first | done | rfl | (simp only [List.length_drop, List.length_take]; rfl)) ?_; (with_reducible refine (laws_markIntS.calls kj13 (fun k_ => some k_ = (.slice Ao21 t152.length co21 : Value).ownBlock) (.slice Ao21 t152.length co21) t152 1 t163 t164 w _ ?side1 ?side2 A29.out).mono ?_); (case side1 => repeat (first | (with_reducible first | exact HB.out | apply below_alloc | apply pw_below_drewN | apply below_drew1) | exact HB.out)); (case side2 => exact Kd.R_tight rfl HO_7.out); rintro e w40 ⟨rfl, hy0, hb, hkp⟩; refine ⟨_, rfl, ?_⟩; have n0_ := Aside0.mk (Kd.R_mono (ok' := fun k_ => some k_ ≠ (.slice Ao21 t152.length co21 : Value).ownBlock) (Kd.R_keptB (HO_5.out) hkp (fun k_ hk_ hs_ => (hk_) hs_)) (fun k_ hk_ => hk_.1)); have n1_ := Aside0.mk (Kd.R_reok rfl hy0 (fun k_ e_ => HO_7.out.1 k_ e_)); have n2_ := Aside0.mk (hb); clear HO_5; clear HO_7; clear HB; have HO_5 := n0_; have HO_7 := n1_; have HB := n2_; clear n0_ n1_ n2_; (try clear hb); (try clear hkp); (try clear hy0)) | ((with_reducible refine gate_callee (f := 17) rfl ?_); refine goesL_ (some 49) rfl rfl Try.func17 (by kernel_rfl) rfl #[.slice Ao21 t164.length co21, .int .i64 1] rfl (by (try simp only [List.map_toArray, List.map_cons, List.map_nil]); first | done | (rw [show t164.length = t152.length from (Kd.R_reads' HO_7.out).1.symm] <;> rfl) | rfl | (simp only [List.length_drop, List.length_take]; rfl)) ?_; (with_reducible refine (laws_heldIntS.calls kj13 _ _ t164 1 t165 _ ?side1 ?side2 A30.out).mono ?_); (case side1 => repeat (first | exact (Kd.R_reads' HO_7.out).2.2 | (with_reducible refine Kd.C_alloc ?_ _) | (with_reducible refine Kd.C_drewN ?_ _) | (with_reducible refine Kd.C_drew ?_))); (case side2 => rw [show t164.length = t152.length from (Kd.R_reads' HO_7.out).1.symm]; exact (Kd.R_reads' HO_7.out).2.1); rintro e w' ⟨rfl, ⟨nd, rfl⟩⟩; refine ⟨_, rfl, ?_⟩) | ((with_reducible refine gate_callee (f := 13) rfl ?_); refine goesL_ (some 56) rfl rfl Try.func13 (by kernel_rfl) rfl #[.slice A0 l0.length c0] rfl (by (try simp only [List.map_toArray, List.map_cons, List.map_nil]); first | done | rfl | (simp only [List.length_drop, List.length_take]; rfl)) ?_; (with_reducible refine (laws_toIntS.calls kj13 _ _ l0 t166 _ ?side1 ?side2 A33.out).mono ?_); (case side1 => repeat (first | exact (Kd.C_below HR0.out (by repeat (first | (with_reducible first | exact HB.out | apply below_alloc | apply pw_below_drewN | apply below_drew1) | exact HB.out))) | (with_reducible refine Kd.C_alloc ?_ _) | (with_reducible refine Kd.C_drewN ?_ _) | (with_reducible refine Kd.C_drew ?_))); (case side2 => exact HC0.out); rintro e w41 ⟨v167, rfl, ho0, hb⟩; refine ⟨_, rfl, ?_⟩; have n0_ := Aside0.mk (Kd.R_elder' (by (with_reducible repeat (first | apply Kd.R_alloc | apply Kd.R_drewN | apply Kd.R_drew)); exact HO_5.out) (Kd.R_base ho0) hb); have n1_ := Aside0.mk (Kd.R_elder' (by (with_reducible repeat (first | apply Kd.R_alloc | apply Kd.R_drewN | apply Kd.R_drew)); exact HO_7.out) (Kd.R_base ho0) hb); have n2_ := Aside0.mk (Kd.R_lower (Kd.R_new' (Kd.R_new' ho0 (Kd.R_lt (by (with_reducible repeat (first | apply Kd.R_alloc | apply Kd.R_drewN | apply Kd.R_drew)); exact HO_5.out))) (Kd.R_lt (by (with_reducible repeat (first | apply Kd.R_alloc | apply Kd.R_drewN | apply Kd.R_drew)); exact HO_7.out))) (below_size (by repeat (first | (with_reducible first | exact HB.out | apply below_alloc | apply pw_below_drewN | apply below_drew1) | exact HB.out)))); have n3_ := Aside0.mk (below_step (by repeat (first | (with_reducible first | exact HB.out | apply below_alloc | apply pw_below_drewN | apply below_drew1) | exact HB.out)) hb); clear HO_5; clear HO_7; clear HB; have HO_5 := n0_; have HO_7 := n1_; have HO168 := n2_; have HB := n3_; clear n0_ n1_ n2_ n3_; (try clear hb); (try clear hb2); (try clear hk); (try clear hi); (try clear ho0); obtain ⟨Ao42, co42, eo42⟩ := Kd.R_slice HO168.out; subst eo42) | ((with_reducible refine gate_callee (f := 31) rfl ?_); refine goesL_ (some 58) rfl rfl Try.func31 (by kernel_rfl) rfl #[.slice Ao42 t166.length co42, .int .i64 a1] rfl (by (try simp only [List.map_toArray, List.map_cons, List.map_nil]); first | done | rfl | (simp only [List.length_drop, List.length_take]; rfl)) ?_; (with_reducible refine (impl_Clip.calls kj13 _ _ t166 a1 t169 _ ?side1 ?side2 A34.out).mono ?_); (case side1 => repeat (first | exact (Kd.R_reads' HO168.out).2.2 | (with_reducible refine Kd.C_alloc ?_ _) | (with_reducible refine Kd.C_drewN ?_ _) | (with_reducible refine Kd.C_drew ?_))); (case side2 => exact (Kd.R_reads' HO168.out).2.1); rintro e w43 ⟨v170, rfl, ho0, hb⟩; refine ⟨_, rfl, ?_⟩; have n0_ := Aside0.mk (Kd.R_elder' (by (with_reducible repeat (first | apply Kd.R_alloc | apply Kd.R_drewN | apply Kd.R_drew)); exact HO_5.out) (Kd.R_base ho0) hb); have n1_ := Aside0.mk (Kd.R_elder' (by (with_reducible repeat (first | apply Kd.R_alloc | apply Kd.R_drewN | apply Kd.R_drew)); exact HO_7.out) (Kd.R_base ho0) hb); have n2_ := Aside0.mk (Kd.R_elder' (by (with_reducible repeat (first | apply Kd.R_alloc | apply Kd.R_drewN | apply Kd.R_drew)); exact HO168.out) (Kd.R_base ho0) hb); have n3_ := Aside0.mk (Kd.R_lower (Kd.R_new' (Kd.R_new' (Kd.R_new' ho0 (Kd.R_lt (by (with_reducible repeat (first | apply Kd.R_alloc | apply Kd.R_drewN | apply Kd.R_drew)); exact HO_5.out))) (Kd.R_lt (by (with_reducible repeat (first | apply Kd.R_alloc | apply Kd.R_drewN | apply Kd.R_drew)); exact HO_7.out))) (Kd.R_lt (by (with_reducible repeat (first | apply Kd.R_alloc | apply Kd.R_drewN | apply Kd.R_drew)); exact HO168.out))) (below_size (by repeat (first | (with_reducible first | exact HB.out | apply below_alloc | apply pw_below_drewN | apply below_drew1) | exact HB.out)))); have n4_ := Aside0.mk (below_step (by repeat (first | (with_reducible first | exact HB.out | apply below_alloc | apply pw_below_drewN | apply below_drew1) | exact HB.out)) hb); clear HO_5; clear HO_7; clear HO168; clear HB; have HO_5 := n0_; have HO_7 := n1_; have HO168 := n2_; have HO171 := n3_; have HB := n4_; clear n0_ n1_ n2_ n3_ n4_; (try clear hb); (try clear hb2); (try clear hk); (try clear hi); (try clear ho0); obtain ⟨Ao44, co44, eo44⟩ := Kd.R_slice HO171.out; subst eo44) | ((with_reducible refine gate_callee (f := 15) rfl ?_); refine goesL_ (some 61) rfl rfl Try.func15 (by kernel_rfl) rfl #[.slice Ao44 t169.length co44, .slice Ao22 t146.length co22] rfl (by (try simp only [List.map_toArray, List.map_cons, List.map_nil]); first | done | rfl | (simp only [List.length_drop, List.length_take]; rfl)) ?_; (with_reducible refine (laws_eqIntS.calls kj13 _ _ t169 _ _ t146 true _ ?side1 ?side2 ?side3 ?side4 A35.out).mono ?_); (case side1 => repeat (first | exact (Kd.R_reads' HO171.out).2.2 | (with_reducible refine Kd.C_alloc ?_ _) | (with_reducible refine Kd.C_drewN ?_ _) | (with_reducible refine Kd.C_drew ?_))); (case side2 => exact (Kd.R_reads' HO171.out).2.1); (case side3 => repeat (first | exact (Kd.R_reads' HO_5.out).2.2 | (with_reducible refine Kd.C_alloc ?_ _) | (with_reducible refine Kd.C_drewN ?_ _) | (with_reducible refine Kd.C_drew ?_))); (case side4 => exact (Kd.R_reads' HO_5.out).2.1); rintro e w' ⟨rfl, ⟨nd, rfl⟩⟩; refine ⟨_, rfl, ?_⟩) | ((with_reducible refine gate_callee (f := 17) rfl ?_); refine goesL_ (some 65) rfl rfl Try.func17 (by kernel_rfl) rfl #[.slice Ao21 t164.length co21, .int .i64 1] rfl (by (try simp only [List.map_toArray, List.map_cons, List.map_nil]); first | done | (rw [show t164.length = t152.length from (Kd.R_reads' HO_7.out).1.symm] <;> rfl) | rfl | (simp only [List.length_drop, List.length_take]; rfl)) ?_; (with_reducible refine (laws_heldIntS.calls kj13 _ _ t164 1 t173 _ ?side1 ?side2 A37.out).mono ?_); (case side1 => repeat (first | exact (Kd.R_reads' HO_7.out).2.2 | (with_reducible refine Kd.C_alloc ?_ _) | (with_reducible refine Kd.C_drewN ?_ _) | (with_reducible refine Kd.C_drew ?_))); (case side2 => rw [show t164.length = t152.length from (Kd.R_reads' HO_7.out).1.symm]; exact (Kd.R_reads' HO_7.out).2.1); rintro e w' ⟨rfl, ⟨nd, rfl⟩⟩; refine ⟨_, rfl, ?_⟩))
                        go_ret
                        exact ⟨by first | rfl | (simp [errW_none, errW_some] <;> rfl) | (simp [*, errW_none, errW_some] <;> rfl), by repeat (first | (with_reducible first | exact HB.out | apply below_alloc | apply pw_below_drewN | apply below_drew1) | exact HB.out)⟩
                      · rw [if_neg c39] at H
                        have c39b0 : (t173 == t163) = false := beq_eq_false_iff_ne.mpr c39
                        have c39b1 : (t173 != t163) = true := bne_iff_ne.mpr c39
                        rw [HRT.out] at H
                        exact absurd H (by simp)
                  · replace c36 := Bool.eq_false_iff.mpr c36
                    subst c36
                    have H1 : (some false) = some r := by rw [if_neg (show ¬ (false = true) by decide)] at H; exact H
                    clear H
                    have H := H1
                    clear H1
                    rw [HRT.out] at H
                    exact absurd H (by simp)
                · rw [if_neg c32] at H
                  have c32b0 : (t165 == t163) = false := beq_eq_false_iff_ne.mpr c32
                  have c32b1 : (t165 != t163) = true := bne_iff_ne.mpr c32
                  rw [HRT.out] at H
                  exact absurd H (by simp)
      · replace c12 := Bool.eq_false_iff.mpr c12
        subst c12
        have H1 : (some false) = some r := by rw [if_neg (show ¬ (false = true) by decide)] at H; exact H
        clear H
        have H := H1
        clear H1
        rw [HRT.out] at H
        exact absurd H (by simp)
    · replace c9 := Bool.eq_false_iff.mpr c9
      subst c9
      have H1 : (some false) = some r := by rw [if_neg (show ¬ (false = true) by decide)] at H; exact H
      clear H
      have H := H1
      clear H1
      rw [HRT.out] at H
      exact absurd H (by simp)

/-- THE ONE PURE STATEMENT of laws_FnExactClip: yours. -/
def laws_FnExactClip.Pure : Prop := ∀ (l0 : List Int) (a1 : Int), l0.length ≤ maxLen → l0.length * 8 ≤ 140737488351232 → (∀ x ∈ l0, (Lit.int .i64 x).wf = true) → (Lit.int .i64 a1).wf = true → ∃ k, laws_FnExactClip.f k l0 a1 = some true
theorem laws_FnExactClip.walk (P : laws_FnExactClip.Pure) (a0 : Option Addr) (len0 cap0 : Nat) (z0 : List Int) (a1 : Int) (w : World) (w0 : (a0 = none ∧ len0 = 0 ∧ cap0 = 0 ∧ z0 = []) ∨ ∃ x, a0 = some x ∧ len0 ≤ cap0 ∧ cap0 ≤ maxLen ∧ z0.length = cap0 ∧ (∀ i, i < z0.length → w.cell? (x.add i) = some (.int .i64 (z0.getD i 0))) ∧ ∀ n ∈ z0, (Lit.int .i64 n).wf = true) (y0 : len0 * 8 ≤ 140737488351232) (w1 : (Lit.int .i64 a1).wf = true) :
    Calls Try.prog 8 #[.slice a0 len0 cap0, .int .i64 a1] w fun e w' => e = .returned (.bool true) ∧ Below w.heap.size w w' := by
  obtain ⟨l0, rfl, hr0, hm0, hw0, hc0⟩ := ReadsInt.ofRowC w0
  obtain ⟨k, h⟩ := P l0 a1 hm0 y0 hw0 w1
  refine (laws_FnExactClip.calls k _ _ l0 a1 true w rfl (Kd.C_of_reads (d := (0 : Int)) (h1 := fun _ => rfl) hr0) hc0 h).mono ?_
  rintro e w' ⟨rfl, hd⟩
  exact ⟨rfl, hd⟩

end Go.Proofs.Ytkgknnhecbbfgaa.PFnExactClip
