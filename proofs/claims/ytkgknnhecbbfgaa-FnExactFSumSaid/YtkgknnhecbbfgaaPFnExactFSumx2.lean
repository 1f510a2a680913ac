-- Printed out of the translation, hand-written contracts beside it; checked by the kernel alone.
import Derived.Test.YtkgknnhecbbfgaaPFnExactFSumx0
import Derived.Test.YtkgknnhecbbfgaaPFnExactFSumx1
namespace Go.Proofs.Ytkgknnhecbbfgaa.PFnExactFSum
open Go.RowKit Go.Proofs.YtkgknnhecbbfgaaW.PrintWords Go.Proofs.YtkgknnhecbbfgaaW.PrintLast Go.Proofs.YtkgknnhecbbfgaaW.PrintMore
attribute [local go_sem] max2_int min2_int max_two min_two max_three min_three max_four min_four   -- for this text's walks alone
set_option linter.unusedVariables false
set_option linter.unusedSimpArgs false

/-! ### spec_l2Close: function 96 -/
mutual
def spec_l2Close.l0 : Nat → Int → Int → Bool → Int → Int → Int → Int → Int → Option (Int)
  | 0, _, _, _, _, _, _, _, _ => none
  | k + 1, x1, x2, x3, x4, x6, x15, x16, x17 => if x17 > 0 then (spec_l2Close.l0 k x1 x2 x3 x4 x6 x15 (wrap64 (x16 + 1)) (x17 / 2)) else (if (wrap64 ((wrap64 ((wrap64 (x2 + x16)) - 1)) - x4)) < x15 then (spec_l2Close.j1 k x1 x2 x3 x4 x6 x15 x15) else (spec_l2Close.j1 k x1 x2 x3 x4 x6 x15 (wrap64 ((wrap64 ((wrap64 (x2 + x16)) - 1)) - x4))))
def spec_l2Close.j1 : Nat → Int → Int → Bool → Int → Int → Int → Int → Option (Int)
  | 0, _, _, _, _, _, _, _ => none
  | k + 1, x1, x2, x3, x4, x6, x15, x18 => spec_l2Close.l1 k x1 x2 x3 x4 x6 x15 x18
def spec_l2Close.l1 : Nat → Int → Int → Bool → Int → Int → Int → Int → Option (Int)
  | 0, _, _, _, _, _, _, _ => none
  | k + 1, x1, x2, x3, x4, x6, x15, x18 => if x2 > x18 then (spec_l2Close.l1 k (wrap64 (x1 * 2)) (wrap64 (x2 - 1)) x3 x4 x6 x15 x18) else ((spec_l2Half.f k x1 (wrap64 (x18 - x2)) x3).bind fun t111 => (if 0 ≤ (IntKind.u64.wrap (wrap64 (x4 + 1))) then (if t111 = (shl .i64 1 (IntKind.u64.wrap (wrap64 (x4 + 1)))) then (spec_l2Close.j3 k (t111 / 2) x4 x6 x15 (wrap64 (x18 + 1))) else (spec_l2Close.j3 k t111 x4 x6 x15 x18)) else (none)))
def spec_l2Close.j3 : Nat → Int → Int → Int → Int → Int → Option (Int)
  | 0, _, _, _, _, _ => none
  | k + 1, x1, x4, x6, x15, x18 => if 0 ≤ (IntKind.u64.wrap (x4)) then (if x1 ≥ (shl .i64 1 (IntKind.u64.wrap (x4))) then (spec_l2Close.j4 k x4 x6 (wrap64 ((wrap64 (x1 - (shl .i64 1 (IntKind.u64.wrap (x4))))) + (shl .i64 (wrap64 ((wrap64 (x18 - x15)) + 1)) (IntKind.u64.wrap (x4)))))) else (spec_l2Close.j4 k x4 x6 x1)) else (none)
def spec_l2Close.j4 : Nat → Int → Int → Int → Option (Int)
  | 0, _, _, _ => none
  | k + 1, x4, x6, x19 => if 0 ≤ (IntKind.u64.wrap (x4)) then (if x19 > (shl .i64 x6 (IntKind.u64.wrap (x4))) then (some (shl .i64 x6 (IntKind.u64.wrap (x4)))) else (some x19)) else (none)
end
def spec_l2Close.f (k : Nat) (a0 : Bool) (a1 : Int) (a2 : Int) (a3 : Bool) (a4 : Int) (a5 : Int) (a6 : Int) : Option (Int) := spec_l2Close.l0 k a1 a2 a3 a4 a6 (wrap64 ((wrap64 (1 - a5)) - a4)) 0 a1
theorem spec_l2Close.mono_l : ∀ k, (∀ y0 y1 y2 y3 y4 y5 y6 y7, LeO (spec_l2Close.l0 k y0 y1 y2 y3 y4 y5 y6 y7) (spec_l2Close.l0 (k + 1) y0 y1 y2 y3 y4 y5 y6 y7)) ∧ (∀ y0 y1 y2 y3 y4 y5 y6, LeO (spec_l2Close.j1 k y0 y1 y2 y3 y4 y5 y6) (spec_l2Close.j1 (k + 1) y0 y1 y2 y3 y4 y5 y6)) ∧ (∀ y0 y1 y2 y3 y4 y5 y6, LeO (spec_l2Close.l1 k y0 y1 y2 y3 y4 y5 y6) (spec_l2Close.l1 (k + 1) y0 y1 y2 y3 y4 y5 y6)) ∧ (∀ y0 y1 y2 y3 y4, LeO (spec_l2Close.j3 k y0 y1 y2 y3 y4) (spec_l2Close.j3 (k + 1) y0 y1 y2 y3 y4)) ∧ (∀ y0 y1 y2, LeO (spec_l2Close.j4 k y0 y1 y2) (spec_l2Close.j4 (k + 1) y0 y1 y2))
  | 0 => ⟨fun _ _ _ _ _ _ _ _ r h => by simp [spec_l2Close.l0] at h, fun _ _ _ _ _ _ _ r h => by simp [spec_l2Close.j1] at h, fun _ _ _ _ _ _ _ r h => by simp [spec_l2Close.l1] at h, fun _ _ _ _ _ r h => by simp [spec_l2Close.j3] at h, fun _ _ _ r h => by simp [spec_l2Close.j4] at h⟩
  | k + 1 => by
    obtain ⟨ih0, ih1, ih2, ih3, ih4⟩ := spec_l2Close.mono_l k
    refine ⟨?_, ?_, ?_, ?_, ?_⟩
    · intro y0 y1 y2 y3 y4 y5 y6 y7
      unfold spec_l2Close.l0
      repeat' first
      | (with_reducible exact ih0 _ _ _ _ _ _ _ _)
      | (with_reducible exact ih1 _ _ _ _ _ _ _)
      | (with_reducible exact ih2 _ _ _ _ _ _ _)
      | (with_reducible exact ih3 _ _ _ _ _)
      | (with_reducible exact ih4 _ _ _)
      | (with_reducible exact spec_l2Half.mono _ _ _ _)
      | (with_reducible exact LeO.refl _)
      | (with_reducible exact LeO.none _)
      | (with_reducible refine LeO.ite ?_ ?_)
      | (with_reducible refine LeO.bind ?_ (fun _ => ?_))
      | exact ih0 _ _ _ _ _ _ _ _
      | exact ih1 _ _ _ _ _ _ _
      | exact ih2 _ _ _ _ _ _ _
      | exact ih3 _ _ _ _ _
      | exact ih4 _ _ _
      | exact spec_l2Half.mono _ _ _ _
      | exact LeO.none _
      | refine LeO.ite ?_ ?_
      | refine LeO.bind ?_ (fun _ => ?_)
    · intro y0 y1 y2 y3 y4 y5 y6
      unfold spec_l2Close.j1
      repeat' first
      | (with_reducible exact ih0 _ _ _ _ _ _ _ _)
      | (with_reducible exact ih1 _ _ _ _ _ _ _)
      | (with_reducible exact ih2 _ _ _ _ _ _ _)
      | (with_reducible exact ih3 _ _ _ _ _)
      | (with_reducible exact ih4 _ _ _)
      | (with_reducible exact spec_l2Half.mono _ _ _ _)
      | (with_reducible exact LeO.refl _)
      | (with_reducible exact LeO.none _)
      | (with_reducible refine LeO.ite ?_ ?_)
      | (with_reducible refine LeO.bind ?_ (fun _ => ?_))
      | exact ih0 _ _ _ _ _ _ _ _
      | exact ih1 _ _ _ _ _ _ _
      | exact ih2 _ _ _ _ _ _ _
      | exact ih3 _ _ _ _ _
      | exact ih4 _ _ _
      | exact spec_l2Half.mono _ _ _ _
      | exact LeO.none _
      | refine LeO.ite ?_ ?_
      | refine LeO.bind ?_ (fun _ => ?_)
    · intro y0 y1 y2 y3 y4 y5 y6
      unfold spec_l2Close.l1
      repeat' first
      | (with_reducible exact ih0 _ _ _ _ _ _ _ _)
      | (with_reducible exact ih1 _ _ _ _ _ _ _)
      | (with_reducible exact ih2 _ _ _ _ _ _ _)
      | (with_reducible exact ih3 _ _ _ _ _)
      | (with_reducible exact ih4 _ _ _)
      | (with_reducible exact spec_l2Half.mono _ _ _ _)
      | (with_reducible exact LeO.refl _)
      | (with_reducible exact LeO.none _)
      | (with_reducible refine LeO.ite ?_ ?_)
      | (with_reducible refine LeO.bind ?_ (fun _ => ?_))
      | exact ih0 _ _ _ _ _ _ _ _
      | exact ih1 _ _ _ _ _ _ _
      | exact ih2 _ _ _ _ _ _ _
      | exact ih3 _ _ _ _ _
      | exact ih4 _ _ _
      | exact spec_l2Half.mono _ _ _ _
      | exact LeO.none _
      | refine LeO.ite ?_ ?_
      | refine LeO.bind ?_ (fun _ => ?_)
    · intro y0 y1 y2 y3 y4
      unfold spec_l2Close.j3
      repeat' first
      | (with_reducible exact ih0 _ _ _ _ _ _ _ _)
      | (with_reducible exact ih1 _ _ _ _ _ _ _)
      | (with_reducible exact ih2 _ _ _ _ _ _ _)
      | (with_reducible exact ih3 _ _ _ _ _)
      | (with_reducible exact ih4 _ _ _)
      | (with_reducible exact spec_l2Half.mono _ _ _ _)
      | (with_reducible exact LeO.refl _)
      | (with_reducible exact LeO.none _)
      | (with_reducible refine LeO.ite ?_ ?_)
      | (with_reducible refine LeO.bind ?_ (fun _ => ?_))
      | exact ih0 _ _ _ _ _ _ _ _
      | exact ih1 _ _ _ _ _ _ _
      | exact ih2 _ _ _ _ _ _ _
      | exact ih3 _ _ _ _ _
      | exact ih4 _ _ _
      | exact spec_l2Half.mono _ _ _ _
      | exact LeO.none _
      | refine LeO.ite ?_ ?_
      | refine LeO.bind ?_ (fun _ => ?_)
    · intro y0 y1 y2
      unfold spec_l2Close.j4
      repeat' first
      | (with_reducible exact ih0 _ _ _ _ _ _ _ _)
      | (with_reducible exact ih1 _ _ _ _ _ _ _)
      | (with_reducible exact ih2 _ _ _ _ _ _ _)
      | (with_reducible exact ih3 _ _ _ _ _)
      | (with_reducible exact ih4 _ _ _)
      | (with_reducible exact spec_l2Half.mono _ _ _ _)
      | (with_reducible exact LeO.refl _)
      | (with_reducible exact LeO.none _)
      | (with_reducible refine LeO.ite ?_ ?_)
      | (with_reducible refine LeO.bind ?_ (fun _ => ?_))
      | exact ih0 _ _ _ _ _ _ _ _
      | exact ih1 _ _ _ _ _ _ _
      | exact ih2 _ _ _ _ _ _ _
      | exact ih3 _ _ _ _ _
      | exact ih4 _ _ _
      | exact spec_l2Half.mono _ _ _ _
      | exact LeO.none _
      | refine LeO.ite ?_ ?_
      | refine LeO.bind ?_ (fun _ => ?_)
theorem spec_l2Close.mono : ∀ a0 a1 a2 a3 a4 a5 a6 k, LeO (spec_l2Close.f k a0 a1 a2 a3 a4 a5 a6) (spec_l2Close.f (k + 1) a0 a1 a2 a3 a4 a5 a6) := by
  intro a0 a1 a2 a3 a4 a5 a6 k
  obtain ⟨ih0, ih1, ih2, ih3, ih4⟩ := spec_l2Close.mono_l k
  unfold spec_l2Close.f
  repeat' first
      | (with_reducible exact ih0 _ _ _ _ _ _ _ _)
      | (with_reducible exact ih1 _ _ _ _ _ _ _)
      | (with_reducible exact ih2 _ _ _ _ _ _ _)
      | (with_reducible exact ih3 _ _ _ _ _)
      | (with_reducible exact ih4 _ _ _)
      | (with_reducible exact spec_l2Half.mono _ _ _ _)
      | (with_reducible exact LeO.refl _)
      | (with_reducible exact LeO.none _)
      | (with_reducible refine LeO.ite ?_ ?_)
      | (with_reducible refine LeO.bind ?_ (fun _ => ?_))
      | exact ih0 _ _ _ _ _ _ _ _
      | exact ih1 _ _ _ _ _ _ _
      | exact ih2 _ _ _ _ _ _ _
      | exact ih3 _ _ _ _ _
      | exact ih4 _ _ _
      | exact spec_l2Half.mono _ _ _ _
      | exact LeO.none _
      | refine LeO.ite ?_ ?_
      | refine LeO.bind ?_ (fun _ => ?_)
set_option maxHeartbeats 8000000 in
set_option maxRecDepth 100000 in
theorem spec_l2Close.calls (k : Nat) (a0 : Bool) (a1 : Int) (a2 : Int) (a3 : Bool) (a4 : Int) (a5 : Int) (a6 : Int) (r : Int) (w : World) (h : spec_l2Close.f k a0 a1 a2 a3 a4 a5 a6 = some r) :
    Calls Try.prog 96 #[.bool a0, .int .i64 a1, .int .i64 a2, .bool a3, .int .i64 a4, .int .i64 a5, .int .i64 a6] w fun e w' => e = .returned (.int .i64 r) ∧ Drawn0 w w' := by
  have H : (spec_l2Close.l0 k a1 a2 a3 a4 a6 (wrap64 ((wrap64 (1 - a5)) - a4)) 0 a1) = some r := h
  clear h
  have H' := Aside0.mk H
  clear H
  go_enter Try.func96, Try.ntmps96
  go_wp2
  go_loopg [16, 17] k (fun kq v16 v17 w' => ∃ (x16_1 : Int) (x17_1 : Int), v16 = .int .i64 x16_1 ∧ v17 = .int .i64 x17_1 ∧ Aside0 (spec_l2Close.l0 kq a1 a2 a3 a4 a6 (wrap64 ((wrap64 (1 - a5)) - a4)) x16_1 x17_1 = some r) ∧ Aside0 (kq ≤ k) ∧ Drawn0 w w')
  case atStart => exact ⟨(0), (a1), (by first | rfl | (simp; done) | (simp [*]; done)), (by first | rfl | (simp; done) | (simp [*]; done)), H', ⟨Nat.le_refl _⟩, by repeat (first | exact Drawn0.refl _ | apply Drawn0.step)⟩
  case round =>
    clear H'
    try clear p2
    try clear p6
    obtain ⟨x16_1, x17_1, rfl, rfl, HA, HK1, ⟨m1, rfl⟩⟩ := hrel
    cases gk with
    | zero => exact absurd HA.out (by simp [spec_l2Close.l0])
    | succ k1 =>
      have H := HA.out
      clear HA
      simp only [spec_l2Close.l0] at H
      by_cases c8 : x17_1 > 0
      · rw [if_pos c8] at H
        have c8b0 : decide (0 < x17_1) = true := decide_eq_true c8
        clear c8
        have H' := Aside0.mk H
        clear H
        go_wp2
        go_roundg k1
        case measure => have := HK1.out; omega
        case rel => exact ⟨(wrap64 (x16_1 + 1)), (x17_1 / 2), (by first | rfl | (simp; done) | (simp [*]; done)), (by first | rfl | (simp; done) | (simp [*]; done)), H', ⟨by have := HK1.out; omega⟩, by repeat (first | exact Drawn0.refl _ | apply Drawn0.step)⟩
      · rw [if_neg c8] at H
        have c8b0 : decide (0 < x17_1) = false := decide_eq_false c8
        clear c8
        have HC9 := Aside0.mk H
        clear H
        go_upto_if 39 with (fail)
        go_cut [18] (fun v18 wc => ∃ (kq : Nat) (x18_8 : Int), v18 = .int .i64 x18_8 ∧ Aside0 (spec_l2Close.j1 kq a1 a2 a3 a4 a6 (wrap64 ((wrap64 (1 - a5)) - a4)) x18_8 = some r) ∧ Aside0 (kq ≤ k1) ∧ Drawn0 w wc)
        case first =>
          have H := HC9.out
          clear HC9
          by_cases c10 : (wrap64 ((wrap64 ((wrap64 (a2 + x16_1)) - 1)) - a4)) < (wrap64 ((wrap64 (1 - a5)) - a4))
          · rw [if_pos c10] at H
            have c10b0 : decide ((wrap64 ((wrap64 ((wrap64 (a2 + x16_1)) - 1)) - a4)) < (wrap64 ((wrap64 (1 - a5)) - a4))) = true := decide_eq_true c10
            clear c10
            (first | rw [c10b0] | (simp only [i64_w, i32_w]; rw [c10b0]) | skip)
            have H' := Aside0.mk H
            clear H
            go_wp2
            go_meet
            case rel => exact ⟨_, ((wrap64 ((wrap64 (1 - a5)) - a4))), (by first | rfl | (simp; done) | (simp [*]; done)), H', ⟨by have := HK1.out; first | omega | exact Nat.le_refl _⟩, by repeat (first | exact Drawn0.refl _ | apply Drawn0.step)⟩
          · rw [if_neg c10] at H
            have c10b0 : decide ((wrap64 ((wrap64 ((wrap64 (a2 + x16_1)) - 1)) - a4)) < (wrap64 ((wrap64 (1 - a5)) - a4))) = false := decide_eq_false c10
            clear c10
            (first | rw [c10b0] | (simp only [i64_w, i32_w]; rw [c10b0]) | skip)
            have H' := Aside0.mk H
            clear H
            go_wp2
            go_meet
            case rel => exact ⟨_, (wrap64 ((wrap64 ((wrap64 (a2 + x16_1)) - 1)) - a4)), (by first | rfl | (simp; done) | (simp [*]; done)), H', ⟨by have := HK1.out; first | omega | exact Nat.le_refl _⟩, by repeat (first | exact Drawn0.refl _ | apply Drawn0.step)⟩
        case rest =>
          clear HC9
          try clear c1
          try clear p2
          try clear p6
          try clear c8
          try clear c8b0
          try clear c9
          try clear c10
          try clear c10b0
          try clear p2
          try clear p6
          obtain ⟨kq, x18_8, rfl, HA, HJ8, ⟨mc8, rfl⟩⟩ := hcut
          cases kq with
          | zero => exact absurd HA.out (by simp [spec_l2Close.j1])
          | succ kj8 =>
            have H := HA.out
            clear HA
            simp only [spec_l2Close.j1] at H
            have H' := Aside0.mk H
            clear H
            go_wp2
            go_loopg [1, 2] kj8 (fun kq v1 v2 w' => ∃ (x1_3 : Int) (x2_3 : Int), v1 = .int .i64 x1_3 ∧ v2 = .int .i64 x2_3 ∧ Aside0 (spec_l2Close.l1 kq x1_3 x2_3 a3 a4 a6 (wrap64 ((wrap64 (1 - a5)) - a4)) x18_8 = some r) ∧ Aside0 (kq ≤ kj8) ∧ Drawn0 w w')
            case atStart => exact ⟨(a1), (a2), (by first | rfl | (simp; done) | (simp [*]; done)), (by first | rfl | (simp; done) | (simp [*]; done)), H', ⟨Nat.le_refl _⟩, by repeat (first | exact Drawn0.refl _ | apply Drawn0.step)⟩
            case round =>
              clear H'
              try clear c1
              try clear p2
              try clear p6
              try clear c8
              try clear c8b0
              try clear c9
              try clear c10
              try clear c10b0
              try clear p2
              try clear p6
              obtain ⟨x1_3, x2_3, rfl, rfl, HA, HK3, ⟨m3, rfl⟩⟩ := hrel
              cases gk with
              | zero => exact absurd HA.out (by simp [spec_l2Close.l1])
              | succ k3 =>
                have H := HA.out
                clear HA
                simp only [spec_l2Close.l1] at H
                by_cases c11 : x2_3 > x18_8
                · rw [if_pos c11] at H
                  have c11b0 : decide (x18_8 < x2_3) = true := decide_eq_true c11
                  clear c11
                  have H' := Aside0.mk H
                  clear H
                  go_wp2
                  go_roundg k3
                  case measure => have := HK1.out; have := HJ8.out; have := HK3.out; omega
                  case rel => exact ⟨(wrap64 (x1_3 * 2)), (wrap64 (x2_3 - 1)), (by first | rfl | (simp; done) | (simp [*]; done)), (by first | rfl | (simp; done) | (simp [*]; done)), H', ⟨by have := HK1.out; have := HJ8.out; have := HK3.out; omega⟩, by repeat (first | exact Drawn0.refl _ | apply Drawn0.step)⟩
                · rw [if_neg c11] at H
                  have c11b0 : decide (x18_8 < x2_3) = false := decide_eq_false c11
                  clear c11
                  replace H := Option.bind_eq_some_iff.mp H
                  obtain ⟨t111, A120, H⟩ := H
                  replace H : (if 0 ≤ (IntKind.u64.wrap (wrap64 (a4 + 1))) then (if t111 = (shl .i64 1 (IntKind.u64.wrap (wrap64 (a4 + 1)))) then (spec_l2Close.j3 k3 (t111 / 2) a4 a6 (wrap64 ((wrap64 (1 - a5)) - a4)) (wrap64 (x18_8 + 1))) else (spec_l2Close.j3 k3 t111 a4 a6 (wrap64 ((wrap64 (1 - a5)) - a4)) x18_8)) else (none)) = some r := H
                  have A12 := Aside0.mk A120
                  clear A120
                  obtain ⟨ji13, hji13⟩ : ∃ j_ : Int, (IntKind.u64.wrap (wrap64 (a4 + 1))) = j_ := ⟨_, rfl⟩
                  replace H : (if 0 ≤ (ji13) then (if t111 = (shl .i64 1 (ji13)) then (spec_l2Close.j3 k3 (t111 / 2) a4 a6 (wrap64 ((wrap64 (1 - a5)) - a4)) (wrap64 (x18_8 + 1))) else (spec_l2Close.j3 k3 t111 a4 a6 (wrap64 ((wrap64 (1 - a5)) - a4)) x18_8)) else (none)) = some r := by first | (rw [hji13] at H; exact H) | (simp only [hji13] at H ⊢; exact H)
                  (try rw [hji13] at A12)
                  by_cases c14 : 0 ≤ (ji13)
                  · rw [if_pos c14] at H
                    have c14b0 := eq_true c14
                    have c14b1 : decide (0 ≤ (ji13)) = true := decide_eq_true c14
                    clear c14
                    obtain ⟨ji15, hji15⟩ : ∃ j_ : Int, (shl .i64 1 (ji13)) = j_ := ⟨_, rfl⟩
                    replace H : (if t111 = (ji15) then (spec_l2Close.j3 k3 (t111 / 2) a4 a6 (wrap64 ((wrap64 (1 - a5)) - a4)) (wrap64 (x18_8 + 1))) else (spec_l2Close.j3 k3 t111 a4 a6 (wrap64 ((wrap64 (1 - a5)) - a4)) x18_8)) = some r := by first | (rw [hji15] at H; exact H) | (simp only [hji15] at H ⊢; exact H)
                    (try rw [hji15] at A12)
                    have hji15_ : (IntKind.i64.wrap (1 * 2 ^ min (ji13).toNat 64)) = ji15 := hji15
                    have hji15z : (ji13) ≤ 64 → (IntKind.i64.wrap (1 * 2 ^ (ji13).toNat)) = ji15 := shl_small hji15
                    have hji15u : (IntKind.i64.wrap (2 ^ min (ji13).toNat 64)) = ji15 := by have h_ := hji15_; rw [Int.one_mul] at h_; exact h_
                    have hji15v : (ji13) ≤ 64 → (IntKind.i64.wrap (2 ^ (ji13).toNat)) = ji15 := fun hle_ => by have h_ := hji15z hle_; rw [Int.one_mul] at h_; exact h_
                    have hji15y : (wrap64 (1 * 2 ^ min (ji13).toNat 64)) = ji15 := (i64_w _).symm.trans hji15_
                    have hji15x : (ji13) ≤ 64 → (wrap64 (1 * 2 ^ (ji13).toNat)) = ji15 := fun h_ => (i64_w _).symm.trans (hji15z h_)
                    have HC16 := Aside0.mk H
                    clear H
                    go_upto_if 59 with (first | ((with_reducible refine gate_callee (f := 101) rfl ?_); refine goesL_ (some 53) rfl rfl Try.func101 (by kernel_rfl) rfl #[.int .i64 x1_3, .int .i64 (wrap64 (x18_8 - x2_3)), .bool a3] rfl (by (try simp only [List.map_toArray, List.map_cons, List.map_nil]); first | done | rfl | (simp only [List.length_drop, List.length_take]; rfl)) ?_; (with_reducible refine (spec_l2Half.calls k3 x1_3 (wrap64 (x18_8 - x2_3)) a3 t111 _ A12.out).mono ?_); rintro e w' ⟨rfl, ⟨nd, rfl⟩⟩; refine ⟨_, rfl, ?_⟩))
                    (try simp only [Act.put, List.setIfInBounds_toArray, List.set_cons_zero, List.set_cons_succ])
                    go_cut [1, 18] (fun v1 v18 wc => ∃ (kq : Nat) (x1_15 : Int) (x18_15 : Int), v1 = .int .i64 x1_15 ∧ v18 = .int .i64 x18_15 ∧ Aside0 (spec_l2Close.j3 kq x1_15 a4 a6 (wrap64 ((wrap64 (1 - a5)) - a4)) x18_15 = some r) ∧ Aside0 (kq ≤ k3) ∧ Drawn0 w wc)
                    case first =>
                      have H := HC16.out
                      clear HC16
                      by_cases c17 : t111 = (ji15)
                      · rw [if_pos c17] at H
                        have c17b0 : (t111 == (ji15)) = true := beq_iff_eq.mpr c17
                        have c17b1 : (t111 != (ji15)) = false := bne_eq_false_iff_eq.mpr c17
                        clear c17
                        (first | rw [c17b0] | (simp only [i64_w, i32_w]; rw [c17b0]) | skip)
                        have H' := Aside0.mk H
                        clear H
                        go_wp2
                        go_meet
                        case rel => exact ⟨_, (t111 / 2), (wrap64 (x18_8 + 1)), (by first | rfl | (simp; done) | (simp [*]; done)), (by first | rfl | (simp; done) | (simp [*]; done)), H', ⟨by have := HK1.out; have := HJ8.out; have := HK3.out; first | omega | exact Nat.le_refl _⟩, by repeat (first | exact Drawn0.refl _ | apply Drawn0.step)⟩
                      · rw [if_neg c17] at H
                        have c17b0 : (t111 == (ji15)) = false := beq_eq_false_iff_ne.mpr c17
                        have c17b1 : (t111 != (ji15)) = true := bne_iff_ne.mpr c17
                        (first | rw [c17b0] | (simp only [i64_w, i32_w]; rw [c17b0]) | skip)
                        have H' := Aside0.mk H
                        clear H
                        go_wp2
                        go_meet
                        case rel => exact ⟨_, (t111), (x18_8), (by first | rfl | (simp; done) | (simp [*]; done)), (by first | rfl | (simp; done) | (simp [*]; done)), H', ⟨by have := HK1.out; have := HJ8.out; have := HK3.out; first | omega | exact Nat.le_refl _⟩, by repeat (first | exact Drawn0.refl _ | apply Drawn0.step)⟩
                    case rest =>
                      clear HC16
                      try clear c1
                      try clear p2
                      try clear p6
                      try clear c8
                      try clear c8b0
                      try clear c9
                      try clear c10
                      try clear c10b0
                      try clear c11
                      try clear c11b0
                      try clear c14
                      try clear c14b0
                      try clear c14b1
                      try clear c17
                      try clear c17b0
                      try clear c17b1
                      try clear p2
                      try clear p6
                      obtain ⟨kq, x1_15, x18_15, rfl, rfl, HA, HJ15, ⟨mc15, rfl⟩⟩ := hcut
                      (try clear hji13x); (try clear hji13y); (try clear hji13v); (try clear hji13u); (try clear hji13z); (try clear hji13_); (try clear hji13)
                      (try clear hji15x); (try clear hji15y); (try clear hji15v); (try clear hji15u); (try clear hji15z); (try clear hji15_); (try clear hji15)
                      cases kq with
                      | zero => exact absurd HA.out (by simp [spec_l2Close.j3])
                      | succ kj15 =>
                        have H := HA.out
                        clear HA
                        simp only [spec_l2Close.j3] at H
                        obtain ⟨ji18, hji18⟩ : ∃ j_ : Int, (IntKind.u64.wrap (a4)) = j_ := ⟨_, rfl⟩
                        replace H : (if 0 ≤ (ji18) then (if x1_15 ≥ (shl .i64 1 (ji18)) then (spec_l2Close.j4 kj15 a4 a6 (wrap64 ((wrap64 (x1_15 - (shl .i64 1 (ji18)))) + (shl .i64 (wrap64 ((wrap64 (x18_15 - (wrap64 ((wrap64 (1 - a5)) - a4)))) + 1)) (ji18))))) else (spec_l2Close.j4 kj15 a4 a6 x1_15)) else (none)) = some r := by first | (rw [hji18] at H; exact H) | (simp only [hji18] at H ⊢; exact H)
                        by_cases c19 : 0 ≤ (ji18)
                        · rw [if_pos c19] at H
                          have c19b0 := eq_true c19
                          have c19b1 : decide (0 ≤ (ji18)) = true := decide_eq_true c19
                          clear c19
                          obtain ⟨ji20, hji20⟩ : ∃ j_ : Int, (shl .i64 1 (ji18)) = j_ := ⟨_, rfl⟩
                          replace H : (if x1_15 ≥ (ji20) then (spec_l2Close.j4 kj15 a4 a6 (wrap64 ((wrap64 (x1_15 - (ji20))) + (shl .i64 (wrap64 ((wrap64 (x18_15 - (wrap64 ((wrap64 (1 - a5)) - a4)))) + 1)) (ji18))))) else (spec_l2Close.j4 kj15 a4 a6 x1_15)) = some r := by first | (rw [hji20] at H; exact H) | (simp only [hji20] at H ⊢; exact H)
                          have hji20_ : (IntKind.i64.wrap (1 * 2 ^ min (ji18).toNat 64)) = ji20 := hji20
                          have hji20z : (ji18) ≤ 64 → (IntKind.i64.wrap (1 * 2 ^ (ji18).toNat)) = ji20 := shl_small hji20
                          have hji20u : (IntKind.i64.wrap (2 ^ min (ji18).toNat 64)) = ji20 := by have h_ := hji20_; rw [Int.one_mul] at h_; exact h_
                          have hji20v : (ji18) ≤ 64 → (IntKind.i64.wrap (2 ^ (ji18).toNat)) = ji20 := fun hle_ => by have h_ := hji20z hle_; rw [Int.one_mul] at h_; exact h_
                          have hji20y : (wrap64 (1 * 2 ^ min (ji18).toNat 64)) = ji20 := (i64_w _).symm.trans hji20_
                          have hji20x : (ji18) ≤ 64 → (wrap64 (1 * 2 ^ (ji18).toNat)) = ji20 := fun h_ => (i64_w _).symm.trans (hji20z h_)
                          have HC21 := Aside0.mk H
                          clear H
                          go_upto_if 69 with (fail)
                          go_cut [19] (fun v19 wc => ∃ (kq : Nat) (x19_20 : Int), v19 = .int .i64 x19_20 ∧ Aside0 (spec_l2Close.j4 kq a4 a6 x19_20 = some r) ∧ Aside0 (kq ≤ kj15) ∧ Drawn0 w wc)
                          case first =>
                            have H := HC21.out
                            clear HC21
                            by_cases c22 : x1_15 ≥ (ji20)
                            · rw [if_pos c22] at H
                              have c22b0 : decide ((ji20) ≤ x1_15) = true := decide_eq_true c22
                              clear c22
                              (first | rw [c22b0] | (simp only [i64_w, i32_w]; rw [c22b0]) | skip)
                              have c23b0 := eq_true (of_decide_eq_true (by first | (with_reducible assumption) | assumption) : 0 ≤ (ji18))
                              have c25b0 := eq_true (of_decide_eq_true (by first | (with_reducible assumption) | assumption) : 0 ≤ (ji18))
                              obtain ⟨ji26, hji26⟩ : ∃ j_ : Int, (shl .i64 (wrap64 ((wrap64 (x18_15 - (wrap64 ((wrap64 (1 - a5)) - a4)))) + 1)) (ji18)) = j_ := ⟨_, rfl⟩
                              replace H : (spec_l2Close.j4 kj15 a4 a6 (wrap64 ((wrap64 (x1_15 - (ji20))) + (ji26)))) = some r := by first | (rw [hji26] at H; exact H) | (simp only [hji26] at H ⊢; exact H)
                              have hji26_ : (IntKind.i64.wrap ((wrap64 ((wrap64 (x18_15 - (wrap64 ((wrap64 (1 - a5)) - a4)))) + 1)) * 2 ^ min (ji18).toNat 64)) = ji26 := hji26
                              have hji26z : (ji18) ≤ 64 → (IntKind.i64.wrap ((wrap64 ((wrap64 (x18_15 - (wrap64 ((wrap64 (1 - a5)) - a4)))) + 1)) * 2 ^ (ji18).toNat)) = ji26 := shl_small hji26
                              have hji26y : (wrap64 ((wrap64 ((wrap64 (x18_15 - (wrap64 ((wrap64 (1 - a5)) - a4)))) + 1)) * 2 ^ min (ji18).toNat 64)) = ji26 := (i64_w _).symm.trans hji26_
                              have hji26x : (ji18) ≤ 64 → (wrap64 ((wrap64 ((wrap64 (x18_15 - (wrap64 ((wrap64 (1 - a5)) - a4)))) + 1)) * 2 ^ (ji18).toNat)) = ji26 := fun h_ => (i64_w _).symm.trans (hji26z h_)
                              have H' := Aside0.mk H
                              clear H
                              go_wp2
                              go_meet
                              case rel => exact ⟨_, (wrap64 ((wrap64 (x1_15 - (ji20))) + (ji26))), (by first | rfl | (simp; done) | (simp only [← hji20, ← hji26] <;> (first | rfl | simp)) | (simp [*]; done)), H', ⟨by have := HK1.out; have := HJ8.out; have := HK3.out; have := HJ15.out; first | omega | exact Nat.le_refl _⟩, by repeat (first | exact Drawn0.refl _ | apply Drawn0.step)⟩
                            · rw [if_neg c22] at H
                              have c22b0 : decide ((ji20) ≤ x1_15) = false := decide_eq_false c22
                              clear c22
                              (first | rw [c22b0] | (simp only [i64_w, i32_w]; rw [c22b0]) | skip)
                              have H' := Aside0.mk H
                              clear H
                              go_wp2
                              go_meet
                              case rel => exact ⟨_, (x1_15), (by first | rfl | (simp; done) | (simp [*]; done)), H', ⟨by have := HK1.out; have := HJ8.out; have := HK3.out; have := HJ15.out; first | omega | exact Nat.le_refl _⟩, by repeat (first | exact Drawn0.refl _ | apply Drawn0.step)⟩
                          case rest =>
                            clear HC21
                            try clear c1
                            try clear c2
                            try clear p2
                            try clear p6
                            try clear c8
                            try clear c8b0
                            try clear c9
                            try clear c10
                            try clear c10b0
                            try clear c11
                            try clear c11b0
                            try clear c14
                            try clear c14b0
                            try clear c14b1
                            try clear c15
                            try clear c17
                            try clear c17b0
                            try clear c17b1
                            try clear c19
                            try clear c19b0
                            try clear c19b1
                            try clear c22
                            try clear c22b0
                            try clear c23
                            try clear c23b0
                            try clear c24
                            try clear c24b0
                            try clear c25
                            try clear c25b0
                            try clear p2
                            try clear p6
                            obtain ⟨kq, x19_20, rfl, HA, HJ20, ⟨mc20, rfl⟩⟩ := hcut
                            (try clear hji13x); (try clear hji13y); (try clear hji13v); (try clear hji13u); (try clear hji13z); (try clear hji13_); (try clear hji13)
                            (try clear hji15x); (try clear hji15y); (try clear hji15v); (try clear hji15u); (try clear hji15z); (try clear hji15_); (try clear hji15)
                            (try clear hji18x); (try clear hji18y); (try clear hji18v); (try clear hji18u); (try clear hji18z); (try clear hji18_); (try clear hji18)
                            (try clear hji20x); (try clear hji20y); (try clear hji20v); (try clear hji20u); (try clear hji20z); (try clear hji20_); (try clear hji20)
                            (try clear hji26x); (try clear hji26y); (try clear hji26v); (try clear hji26u); (try clear hji26z); (try clear hji26_); (try clear hji26)
                            cases kq with
                            | zero => exact absurd HA.out (by simp [spec_l2Close.j4])
                            | succ kj20 =>
                              have H := HA.out
                              clear HA
                              simp only [spec_l2Close.j4] at H
                              obtain ⟨ji27, hji27⟩ : ∃ j_ : Int, (IntKind.u64.wrap (a4)) = j_ := ⟨_, rfl⟩
                              replace H : (if 0 ≤ (ji27) then (if x19_20 > (shl .i64 a6 (ji27)) then (some (shl .i64 a6 (ji27))) else (some x19_20)) else (none)) = some r := by first | (rw [hji27] at H; exact H) | (simp only [hji27] at H ⊢; exact H)
                              by_cases c28 : 0 ≤ (ji27)
                              · rw [if_pos c28] at H
                                have c28b0 := eq_true c28
                                have c28b1 : decide (0 ≤ (ji27)) = true := decide_eq_true c28
                                clear c28
                                obtain ⟨ji29, hji29⟩ : ∃ j_ : Int, (shl .i64 a6 (ji27)) = j_ := ⟨_, rfl⟩
                                replace H : (if x19_20 > (ji29) then (some ji29) else (some x19_20)) = some r := by first | (rw [hji29] at H; exact H) | (simp only [hji29] at H ⊢; exact H)
                                have hji29_ : (IntKind.i64.wrap (a6 * 2 ^ min (ji27).toNat 64)) = ji29 := hji29
                                have hji29z : (ji27) ≤ 64 → (IntKind.i64.wrap (a6 * 2 ^ (ji27).toNat)) = ji29 := shl_small hji29
                                have hji29y : (wrap64 (a6 * 2 ^ min (ji27).toNat 64)) = ji29 := (i64_w _).symm.trans hji29_
                                have hji29x : (ji27) ≤ 64 → (wrap64 (a6 * 2 ^ (ji27).toNat)) = ji29 := fun h_ => (i64_w _).symm.trans (hji29z h_)
                                by_cases c30 : x19_20 > (ji29)
                                · rw [if_pos c30] at H
                                  have c30b0 : decide ((ji29) < x19_20) = true := decide_eq_true c30
                                  clear c30
                                  have c31b0 := eq_true (of_decide_eq_true (by first | (with_reducible assumption) | assumption) : 0 ≤ (ji27))
                                  obtain rfl := Option.some.inj H
                                  go_wp2
                                  go_ret
                                  exact ⟨by first | rfl | (simp; done) | (simp only [← hji13, ← hji15, ← hji18, ← hji20, ← hji27, ← hji29] <;> (first | rfl | simp)) | (simp [*]; done), by repeat (first | exact Drawn0.refl _ | apply Drawn0.step)⟩
                                · rw [if_neg c30] at H
                                  have c30b0 : decide ((ji29) < x19_20) = false := decide_eq_false c30
                                  clear c30
                                  obtain rfl := Option.some.inj H
                                  go_wp2
                                  go_ret
                                  exact ⟨by first | rfl | (simp; done) | (simp only [← hji13, ← hji15, ← hji18, ← hji20, ← hji27, ← hji29] <;> (first | rfl | simp)) | (simp [*]; done), by repeat (first | exact Drawn0.refl _ | apply Drawn0.step)⟩
                              · rw [if_neg c28] at H
                                exact absurd H (by simp)
                        · rw [if_neg c19] at H
                          exact absurd H (by simp)
                  · rw [if_neg c14] at H
                    exact absurd H (by simp)

/-! ### spec_l2Put: function 80 -/
def spec_l2Put.f (k : Nat) (a0 : Bool) (a1 : Int) (a2 : Int) (a3 : Bool) : Option (Int) := (spec_l2Close.f k a0 a1 a2 a3 23 127 255).bind fun t112 => ((spec_l2Sign.f a0).bind fun t113 => (some (wrap64 (t112 + (wrap64 (t113 * 2147483648))))))
theorem spec_l2Put.mono : ∀ a0 a1 a2 a3 k, LeO (spec_l2Put.f k a0 a1 a2 a3) (spec_l2Put.f (k + 1) a0 a1 a2 a3) := by
  intro a0 a1 a2 a3 k
  unfold spec_l2Put.f
  repeat' first
      | (with_reducible exact spec_l2Close.mono _ _ _ _ _ _ _ _)
      | (with_reducible exact LeO.refl _)
      | (with_reducible exact LeO.none _)
      | (with_reducible refine LeO.ite ?_ ?_)
      | (with_reducible refine LeO.bind ?_ (fun _ => ?_))
      | exact spec_l2Close.mono _ _ _ _ _ _ _ _
      | exact LeO.none _
      | refine LeO.ite ?_ ?_
      | refine LeO.bind ?_ (fun _ => ?_)
set_option maxHeartbeats 8000000 in
set_option maxRecDepth 100000 in
theorem spec_l2Put.calls (k : Nat) (a0 : Bool) (a1 : Int) (a2 : Int) (a3 : Bool) (r : Int) (w : World) (h : spec_l2Put.f k a0 a1 a2 a3 = some r) :
    Calls Try.prog 80 #[.bool a0, .int .i64 a1, .int .i64 a2, .bool a3] w fun e w' => e = .returned (.int .i64 r) ∧ Drawn0 w w' := by
  have H : ((spec_l2Close.f k a0 a1 a2 a3 23 127 255).bind fun t112 => ((spec_l2Sign.f a0).bind fun t113 => (some (wrap64 (t112 + (wrap64 (t113 * 2147483648))))))) = some r := h
  clear h
  replace H := Option.bind_eq_some_iff.mp H
  obtain ⟨t112, A50, H⟩ := H
  replace H : ((spec_l2Sign.f a0).bind fun t113 => (some (wrap64 (t112 + (wrap64 (t113 * 2147483648)))))) = some r := H
  have A5 := Aside0.mk A50
  clear A50
  replace H := Option.bind_eq_some_iff.mp H
  obtain ⟨t113, A60, H⟩ := H
  replace H : (some (wrap64 (t112 + (wrap64 (t113 * 2147483648))))) = some r := H
  have A6 := Aside0.mk A60
  clear A60
  obtain rfl := Option.some.inj H
  go_enter Try.func80, Try.ntmps80
  go_wp2_with (first | ((with_reducible refine gate_callee (f := 96) rfl ?_); refine goesL_ (some 13) rfl rfl Try.func96 (by kernel_rfl) rfl #[.bool a0, .int .i64 a1, .int .i64 a2, .bool a3, .int .i64 23, .int .i64 127, .int .i64 255] rfl (by (try simp only [List.map_toArray, List.map_cons, List.map_nil]); first | done | rfl | (simp only [List.length_drop, List.length_take]; rfl)) ?_; (with_reducible refine (spec_l2Close.calls k a0 a1 a2 a3 23 127 255 t112 _ A5.out).mono ?_); rintro e w' ⟨rfl, ⟨nd, rfl⟩⟩; refine ⟨_, rfl, ?_⟩) | ((with_reducible refine gate_callee (f := 95) rfl ?_); refine goesL_ (some 15) rfl rfl Try.func95 (by kernel_rfl) rfl #[.bool a0] rfl (by (try simp only [List.map_toArray, List.map_cons, List.map_nil]); first | done | rfl | (simp only [List.length_drop, List.length_take]; rfl)) ?_; (with_reducible refine (spec_l2Sign.calls a0 t113 _ A6.out).mono ?_); rintro e w' ⟨rfl, ⟨nd, rfl⟩⟩; refine ⟨_, rfl, ?_⟩))
  go_ret
  exact ⟨by first | rfl | (simp; done) | (simp [*]; done), by repeat (first | exact Drawn0.refl _ | apply Drawn0.step)⟩

end Go.Proofs.Ytkgknnhecbbfgaa.PFnExactFSum
