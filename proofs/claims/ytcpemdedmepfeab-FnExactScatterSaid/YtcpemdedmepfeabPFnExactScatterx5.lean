-- Printed out of the translation, hand-written contracts beside it; checked by the kernel alone.
import Derived.Test.YtcpemdedmepfeabPFnExactScatterx0
namespace Go.Proofs.Ytcpemdedmepfeab.PFnExactScatter
open Go.RowKit Go.Proofs.YtcpemdedmepfeabW.PrintWords Go.Proofs.YtcpemdedmepfeabW.PrintLast Go.Proofs.YtcpemdedmepfeabW.PrintMore
attribute [local go_sem] max2_int min2_int max_two min_two max_three min_three max_four min_four   -- for this text's walks alone
set_option linter.unusedVariables false
set_option linter.unusedSimpArgs false

/-! ### impl_DimsOk: function 93 -/
mutual
def impl_DimsOk.l0 : Nat → List Int → Int → List Int → Int → Int → Option (Bool)
  | 0, _, _, _, _, _ => none
  | k + 1, x0, x3, x6, x7, x8 => if x8 < x7 then (if 0 ≤ x8 then (if x8 < (x6.length : Int) then (if (rd x6 x8) < 1 then (impl_DimsOk.j1 k x0 x3 (rd x6 x8) x6 x7 x8 true) else (impl_DimsOk.j1 k x0 x3 (rd x6 x8) x6 x7 x8 (decide ((rd x6 x8) > 4096)))) else (none)) else (none)) else (some (decide ((x0.length : Int) ≤ 6)))
def impl_DimsOk.j1 : Nat → List Int → Int → Int → List Int → Int → Int → Bool → Option (Bool)
  | 0, _, _, _, _, _, _, _ => none
  | k + 1, x0, x3, x5, x6, x7, x8, x17 => if x17 = true then (some false) else (if (wrap64 (x3 * x5)) > 4096 then (some false) else (impl_DimsOk.l0 k x0 (wrap64 (x3 * x5)) x6 x7 (wrap64 (x8 + 1))))
end
def impl_DimsOk.f (k : Nat) (l0 : List Int) : Option (Bool) := impl_DimsOk.l0 k l0 1 l0 (l0.length : Int) 0
theorem impl_DimsOk.mono_l : ∀ k, (∀ y0 y1 y2 y3 y4, LeO (impl_DimsOk.l0 k y0 y1 y2 y3 y4) (impl_DimsOk.l0 (k + 1) y0 y1 y2 y3 y4)) ∧ (∀ y0 y1 y2 y3 y4 y5 y6, LeO (impl_DimsOk.j1 k y0 y1 y2 y3 y4 y5 y6) (impl_DimsOk.j1 (k + 1) y0 y1 y2 y3 y4 y5 y6))
  | 0 => ⟨fun _ _ _ _ _ r h => by simp [impl_DimsOk.l0] at h, fun _ _ _ _ _ _ _ r h => by simp [impl_DimsOk.j1] at h⟩
  | k + 1 => by
    obtain ⟨ih0, ih1⟩ := impl_DimsOk.mono_l k
    refine ⟨?_, ?_⟩
    · intro y0 y1 y2 y3 y4
      unfold impl_DimsOk.l0
      repeat' first
      | (with_reducible exact ih0 _ _ _ _ _)
      | (with_reducible exact ih1 _ _ _ _ _ _ _)
      | (with_reducible exact LeO.refl _)
      | (with_reducible exact LeO.none _)
      | (with_reducible refine LeO.ite ?_ ?_)
      | (with_reducible refine LeO.bind ?_ (fun _ => ?_))
      | exact ih0 _ _ _ _ _
      | exact ih1 _ _ _ _ _ _ _
      | exact LeO.none _
      | refine LeO.ite ?_ ?_
      | refine LeO.bind ?_ (fun _ => ?_)
    · intro y0 y1 y2 y3 y4 y5 y6
      unfold impl_DimsOk.j1
      repeat' first
      | (with_reducible exact ih0 _ _ _ _ _)
      | (with_reducible exact ih1 _ _ _ _ _ _ _)
      | (with_reducible exact LeO.refl _)
      | (with_reducible exact LeO.none _)
      | (with_reducible refine LeO.ite ?_ ?_)
      | (with_reducible refine LeO.bind ?_ (fun _ => ?_))
      | exact ih0 _ _ _ _ _
      | exact ih1 _ _ _ _ _ _ _
      | exact LeO.none _
      | refine LeO.ite ?_ ?_
      | refine LeO.bind ?_ (fun _ => ?_)
theorem impl_DimsOk.mono : ∀ a0 k, LeO (impl_DimsOk.f k a0) (impl_DimsOk.f (k + 1) a0) := by
  intro a0 k
  obtain ⟨ih0, ih1⟩ := impl_DimsOk.mono_l k
  unfold impl_DimsOk.f
  repeat' first
      | (with_reducible exact ih0 _ _ _ _ _)
      | (with_reducible exact ih1 _ _ _ _ _ _ _)
      | (with_reducible exact LeO.refl _)
      | (with_reducible exact LeO.none _)
      | (with_reducible refine LeO.ite ?_ ?_)
      | (with_reducible refine LeO.bind ?_ (fun _ => ?_))
      | exact ih0 _ _ _ _ _
      | exact ih1 _ _ _ _ _ _ _
      | exact LeO.none _
      | refine LeO.ite ?_ ?_
      | refine LeO.bind ?_ (fun _ => ?_)
set_option maxHeartbeats 8000000 in
set_option maxRecDepth 100000 in
theorem impl_DimsOk.calls (k : Nat) (A0 : Option Addr) (c0 : Nat) (l0 : List Int) (r : Bool) (w : World) (hr0 : Kd.C (Kd.int .i64) w A0 l0.length l0) (hc0 : l0.length ≤ c0) (h : impl_DimsOk.f k l0 = some r) :
    Calls Try.prog 93 #[.slice A0 l0.length c0] w fun e w' => e = .returned (.bool r) ∧ Drawn0 w w' := by
  have HR0 := Aside0.mk hr0
  have HC0 := Aside0.mk hc0
  clear hr0 hc0
  have H : (impl_DimsOk.l0 k l0 1 l0 (l0.length : Int) 0) = some r := h
  clear h
  have H' := Aside0.mk H
  clear H
  go_enter Try.func93, Try.ntmps93
  go_wp2
  go_loopg [3, 8] k (fun kq v3 v8 w' => ∃ (x3_1 : Int) (x8_1 : Int), v3 = .int .i64 x3_1 ∧ v8 = .int .i64 x8_1 ∧ Aside0 (impl_DimsOk.l0 kq l0 x3_1 l0 (l0.length : Int) x8_1 = some r) ∧ Aside0 (kq ≤ k) ∧ Drawn0 w w')
  case atStart => exact ⟨(1), (0), (by first | rfl | (simp; done) | (simp [*]; done)), (by first | rfl | (simp; done) | (simp [*]; done)), H', ⟨Nat.le_refl _⟩, by repeat (first | exact Drawn0.refl _ | apply Drawn0.step)⟩
  case round =>
    clear H'
    obtain ⟨x3_1, x8_1, rfl, rfl, HA, HK1, ⟨m1, rfl⟩⟩ := hrel
    cases gk with
    | zero => exact absurd HA.out (by simp [impl_DimsOk.l0])
    | succ k1 =>
      have H := HA.out
      clear HA
      simp only [impl_DimsOk.l0] at H
      by_cases c2 : x8_1 < (l0.length : Int)
      · rw [if_pos c2] at H
        have c2b0 : decide (x8_1 < (l0.length : Int)) = true := decide_eq_true c2
        clear c2
        by_cases c3 : 0 ≤ x8_1
        · rw [if_pos c3] at H
          have c3b0 : decide (0 ≤ x8_1) = true := decide_eq_true c3
          clear c3
          by_cases c4 : x8_1 < (l0.length : Int)
          · rw [if_pos c4] at H
            have c4b0 : decide (x8_1 < (l0.length : Int)) = true := decide_eq_true c4
            clear c4
            have HC5 := Aside0.mk H
            clear H
            have p214 : 0 ≤ (x8_1 : Int) := of_decide_eq_true (by first | (with_reducible assumption) | assumption)
            have q214 : x8_1 < (l0.length : Int) := of_decide_eq_true (by first | (with_reducible assumption) | assumption)
            obtain ⟨ad214, e214, hx214_0⟩ := Kd.at_int HR0.out x8_1 p214 q214
            cases e214
            replace p214 := eq_true p214
            replace q214 := eq_true q214
            go_upto_region 5 with (fail)
            go_cut [17] (fun v17 wc => ∃ (kq : Nat) (x17_4 : Bool), v17 = .bool x17_4 ∧ Aside0 (impl_DimsOk.j1 kq l0 x3_1 (rd l0 x8_1) l0 (l0.length : Int) x8_1 x17_4 = some r) ∧ Aside0 (kq ≤ k1) ∧ Drawn0 w wc)
            case first =>
              have H := HC5.out
              clear HC5
              by_cases c6 : (rd l0 x8_1) < 1
              · rw [if_pos c6] at H
                have c6b0 : decide ((rd l0 x8_1) < 1) = true := decide_eq_true c6
                clear c6
                (first | rw [c6b0] | (simp only [i64_w, i32_w]; rw [c6b0]) | skip)
                have H' := Aside0.mk H
                clear H
                go_wp2
                go_meet
                case rel => exact ⟨_, (true), (by first | rfl | (simp; done) | (simp [*]; done)), H', ⟨by have := HK1.out; first | omega | exact Nat.le_refl _⟩, by repeat (first | exact Drawn0.refl _ | apply Drawn0.step)⟩
              · rw [if_neg c6] at H
                have c6b0 : decide ((rd l0 x8_1) < 1) = false := decide_eq_false c6
                clear c6
                (first | rw [c6b0] | (simp only [i64_w, i32_w]; rw [c6b0]) | skip)
                have H' := Aside0.mk H
                clear H
                go_wp2
                go_meet
                case rel => exact ⟨_, (decide ((rd l0 x8_1) > 4096)), (by first | rfl | (simp; done) | (simp [*]; done)), H', ⟨by have := HK1.out; first | omega | exact Nat.le_refl _⟩, by repeat (first | exact Drawn0.refl _ | apply Drawn0.step)⟩
            case rest =>
              clear HC5
              try clear c2
              try clear c2b0
              try clear p2
              try clear q2
              try clear hx2
              try clear c3
              try clear c3b0
              try clear c4
              try clear c4b0
              try clear c6
              try clear c6b0
              try clear hx214_0
              try clear p214
              try clear q214
              obtain ⟨kq, x17_4, rfl, HA, HJ4, ⟨mc4, rfl⟩⟩ := hcut
              cases kq with
              | zero => exact absurd HA.out (by simp [impl_DimsOk.j1])
              | succ kj4 =>
                have H := HA.out
                clear HA
                simp only [impl_DimsOk.j1] at H
                by_cases c7 : x17_4 = true
                · subst c7
                  have H1 : (some false) = some r := by rw [if_pos rfl] at H; exact H
                  clear H
                  have H := H1
                  clear H1
                  obtain rfl := Option.some.inj H
                  go_wp2
                  go_ret
                  exact ⟨by first | rfl | (simp; done) | (simp [*]; done), by repeat (first | exact Drawn0.refl _ | apply Drawn0.step)⟩
                · replace c7 := Bool.eq_false_iff.mpr c7
                  subst c7
                  have H1 : (if (wrap64 (x3_1 * (rd l0 x8_1))) > 4096 then (some false) else (impl_DimsOk.l0 kj4 l0 (wrap64 (x3_1 * (rd l0 x8_1))) l0 (l0.length : Int) (wrap64 (x8_1 + 1)))) = some r := by rw [if_neg (show ¬ (false = true) by decide)] at H; exact H
                  clear H
                  have H := H1
                  clear H1
                  by_cases c8 : (wrap64 (x3_1 * (rd l0 x8_1))) > 4096
                  · rw [if_pos c8] at H
                    have c8b0 : decide (4096 < (wrap64 (x3_1 * (rd l0 x8_1)))) = true := decide_eq_true c8
                    clear c8
                    obtain rfl := Option.some.inj H
                    go_wp2
                    go_ret
                    exact ⟨by first | rfl | (simp; done) | (simp [*]; done), by repeat (first | exact Drawn0.refl _ | apply Drawn0.step)⟩
                  · rw [if_neg c8] at H
                    have c8b0 : decide (4096 < (wrap64 (x3_1 * (rd l0 x8_1)))) = false := decide_eq_false c8
                    clear c8
                    have H' := Aside0.mk H
                    clear H
                    go_wp2
                    go_roundg kj4
                    case measure => have := HK1.out; have := HJ4.out; omega
                    case rel => exact ⟨(wrap64 (x3_1 * (rd l0 x8_1))), (wrap64 (x8_1 + 1)), (by first | rfl | (simp; done) | (simp [*]; done)), (by first | rfl | (simp; done) | (simp [*]; done)), H', ⟨by have := HK1.out; have := HJ4.out; omega⟩, by repeat (first | exact Drawn0.refl _ | apply Drawn0.step)⟩
          · rw [if_neg c4] at H
            exact absurd H (by simp)
        · rw [if_neg c3] at H
          exact absurd H (by simp)
      · rw [if_neg c2] at H
        have c2b0 : decide (x8_1 < (l0.length : Int)) = false := decide_eq_false c2
        clear c2
        obtain rfl := Option.some.inj H
        go_wp2
        go_ret
        exact ⟨by first | rfl | (simp; done) | (simp [*]; done), by repeat (first | exact Drawn0.refl _ | apply Drawn0.step)⟩

/-! ### impl_product: function 96 -/
def impl_product.l0 : Nat → Int → List Int → Int → Int → Option (Int)
  | 0, _, _, _, _ => none
  | k + 1, x3, x6, x7, x8 => if x8 < x7 then (if 0 ≤ x8 then (if x8 < (x6.length : Int) then (impl_product.l0 k (wrap64 (x3 * (rd x6 x8))) x6 x7 (wrap64 (x8 + 1))) else (none)) else (none)) else (some x3)
def impl_product.f (k : Nat) (l0 : List Int) : Option (Int) := impl_product.l0 k 1 l0 (l0.length : Int) 0
theorem impl_product.mono_l : ∀ k, (∀ y0 y1 y2 y3, LeO (impl_product.l0 k y0 y1 y2 y3) (impl_product.l0 (k + 1) y0 y1 y2 y3))
  | 0 => fun _ _ _ _ r h => by simp [impl_product.l0] at h
  | k + 1 => by
    have ih0 := impl_product.mono_l k
    · intro y0 y1 y2 y3
      unfold impl_product.l0
      repeat' first
      | (with_reducible exact ih0 _ _ _ _)
      | (with_reducible exact LeO.refl _)
      | (with_reducible exact LeO.none _)
      | (with_reducible refine LeO.ite ?_ ?_)
      | (with_reducible refine LeO.bind ?_ (fun _ => ?_))
      | exact ih0 _ _ _ _
      | exact LeO.none _
      | refine LeO.ite ?_ ?_
      | refine LeO.bind ?_ (fun _ => ?_)
theorem impl_product.mono : ∀ a0 k, LeO (impl_product.f k a0) (impl_product.f (k + 1) a0) := by
  intro a0 k
  have ih0 := impl_product.mono_l k
  unfold impl_product.f
  repeat' first
      | (with_reducible exact ih0 _ _ _ _)
      | (with_reducible exact LeO.refl _)
      | (with_reducible exact LeO.none _)
      | (with_reducible refine LeO.ite ?_ ?_)
      | (with_reducible refine LeO.bind ?_ (fun _ => ?_))
      | exact ih0 _ _ _ _
      | exact LeO.none _
      | refine LeO.ite ?_ ?_
      | refine LeO.bind ?_ (fun _ => ?_)
set_option maxHeartbeats 8000000 in
set_option maxRecDepth 100000 in
theorem impl_product.calls (k : Nat) (A0 : Option Addr) (c0 : Nat) (l0 : List Int) (r : Int) (w : World) (hr0 : Kd.C (Kd.int .i64) w A0 l0.length l0) (hc0 : l0.length ≤ c0) (h : impl_product.f k l0 = some r) :
    Calls Try.prog 96 #[.slice A0 l0.length c0] w fun e w' => e = .returned (.int .i64 r) ∧ Drawn0 w w' := by
  have HR0 := Aside0.mk hr0
  have HC0 := Aside0.mk hc0
  clear hr0 hc0
  have H : (impl_product.l0 k 1 l0 (l0.length : Int) 0) = some r := h
  clear h
  have H' := Aside0.mk H
  clear H
  go_enter Try.func96, Try.ntmps96
  go_wp2
  go_loopg [3, 8] k (fun kq v3 v8 w' => ∃ (x3_1 : Int) (x8_1 : Int), v3 = .int .i64 x3_1 ∧ v8 = .int .i64 x8_1 ∧ Aside0 (impl_product.l0 kq x3_1 l0 (l0.length : Int) x8_1 = some r) ∧ Aside0 (kq ≤ k) ∧ Drawn0 w w')
  case atStart => exact ⟨(1), (0), (by first | rfl | (simp; done) | (simp [*]; done)), (by first | rfl | (simp; done) | (simp [*]; done)), H', ⟨Nat.le_refl _⟩, by repeat (first | exact Drawn0.refl _ | apply Drawn0.step)⟩
  case round =>
    clear H'
    obtain ⟨x3_1, x8_1, rfl, rfl, HA, HK1, ⟨m1, rfl⟩⟩ := hrel
    cases gk with
    | zero => exact absurd HA.out (by simp [impl_product.l0])
    | succ k1 =>
      have H := HA.out
      clear HA
      simp only [impl_product.l0] at H
      by_cases c2 : x8_1 < (l0.length : Int)
      · rw [if_pos c2] at H
        have c2b0 : decide (x8_1 < (l0.length : Int)) = true := decide_eq_true c2
        clear c2
        by_cases c3 : 0 ≤ x8_1
        · rw [if_pos c3] at H
          have c3b0 : decide (0 ≤ x8_1) = true := decide_eq_true c3
          clear c3
          by_cases c4 : x8_1 < (l0.length : Int)
          · rw [if_pos c4] at H
            have c4b0 : decide (x8_1 < (l0.length : Int)) = true := decide_eq_true c4
            clear c4
            have H' := Aside0.mk H
            clear H
            have p215 : 0 ≤ (x8_1 : Int) := of_decide_eq_true (by first | (with_reducible assumption) | assumption)
            have q215 : x8_1 < (l0.length : Int) := of_decide_eq_true (by first | (with_reducible assumption) | assumption)
            obtain ⟨ad215, e215, hx215_0⟩ := Kd.at_int HR0.out x8_1 p215 q215
            cases e215
            replace p215 := eq_true p215
            replace q215 := eq_true q215
            go_wp2
            go_roundg k1
            case measure => have := HK1.out; omega
            case rel => exact ⟨(wrap64 (x3_1 * (rd l0 x8_1))), (wrap64 (x8_1 + 1)), (by first | rfl | (simp; done) | (simp [*]; done)), (by first | rfl | (simp; done) | (simp [*]; done)), H', ⟨by have := HK1.out; omega⟩, by repeat (first | exact Drawn0.refl _ | apply Drawn0.step)⟩
          · rw [if_neg c4] at H
            exact absurd H (by simp)
        · rw [if_neg c3] at H
          exact absurd H (by simp)
      · rw [if_neg c2] at H
        have c2b0 : decide (x8_1 < (l0.length : Int)) = false := decide_eq_false c2
        clear c2
        obtain rfl := Option.some.inj H
        go_wp2
        go_ret
        exact ⟨by first | rfl | (simp; done) | (simp [*]; done), by repeat (first | exact Drawn0.refl _ | apply Drawn0.step)⟩

/-! ### impl_lines: function 80 -/
def impl_lines.f (k : Nat) (l0 : List Int) (a1 : Int) : Option (Int × Int × Int) := if 0 ≤ a1 then (if a1 ≤ (l0.length : Int) then ((impl_product.f k (l0.take (a1 : Int).toNat)).bind fun t217 => (if a1 < (l0.length : Int) then (if 0 ≤ (wrap64 (a1 + 1)) then (if (wrap64 (a1 + 1)) ≤ (l0.length : Int) then ((impl_product.f k (l0.drop ((wrap64 (a1 + 1)) : Int).toNat)).bind fun t220 => (some (t217, rd l0 a1, t220))) else (none)) else (none)) else (none))) else (none)) else (none)
theorem impl_lines.mono : ∀ a0 a1 k, LeO (impl_lines.f k a0 a1) (impl_lines.f (k + 1) a0 a1) := by
  intro a0 a1 k
  unfold impl_lines.f
  repeat' first
      | (with_reducible exact impl_product.mono _ _)
      | (with_reducible exact LeO.refl _)
      | (with_reducible exact LeO.none _)
      | (with_reducible refine LeO.ite ?_ ?_)
      | (with_reducible refine LeO.bind ?_ (fun _ => ?_))
      | exact impl_product.mono _ _
      | exact LeO.none _
      | refine LeO.ite ?_ ?_
      | refine LeO.bind ?_ (fun _ => ?_)
set_option maxHeartbeats 8000000 in
set_option maxRecDepth 100000 in
theorem impl_lines.calls (k : Nat) (A0 : Option Addr) (c0 : Nat) (l0 : List Int) (a1 : Int) (r1 : Int) (r2 : Int) (r3 : Int) (w : World) (hr0 : Kd.C (Kd.int .i64) w A0 l0.length l0) (hc0 : l0.length ≤ c0) (h : impl_lines.f k l0 a1 = some (r1, r2, r3)) :
    Calls Try.prog 80 #[.slice A0 l0.length c0, .int .i64 a1] w fun e w' => e = .returned (.tuple #[.int .i64 r1, .int .i64 r2, .int .i64 r3]) ∧ Drawn0 w w' := by
  have HR0 := Aside0.mk hr0
  have HC0 := Aside0.mk hc0
  clear hr0 hc0
  have H : (if 0 ≤ a1 then (if a1 ≤ (l0.length : Int) then ((impl_product.f k (l0.take (a1 : Int).toNat)).bind fun t217 => (if a1 < (l0.length : Int) then (if 0 ≤ (wrap64 (a1 + 1)) then (if (wrap64 (a1 + 1)) ≤ (l0.length : Int) then ((impl_product.f k (l0.drop ((wrap64 (a1 + 1)) : Int).toNat)).bind fun t220 => (some (t217, rd l0 a1, t220))) else (none)) else (none)) else (none))) else (none)) else (none)) = some (r1, r2, r3) := h
  clear h
  by_cases c3 : 0 ≤ a1
  · rw [if_pos c3] at H
    have c3b0 := eq_true c3
    have c3b1 : decide (0 ≤ a1) = true := decide_eq_true c3
    clear c3
    by_cases c4 : a1 ≤ (l0.length : Int)
    · rw [if_pos c4] at H
      have c4b0 := eq_true c4
      have c4b1 : decide (a1 ≤ (l0.length : Int)) = true := decide_eq_true c4
      clear c4
      replace H := Option.bind_eq_some_iff.mp H
      obtain ⟨t217, A50, H⟩ := H
      replace H : (if a1 < (l0.length : Int) then (if 0 ≤ (wrap64 (a1 + 1)) then (if (wrap64 (a1 + 1)) ≤ (l0.length : Int) then ((impl_product.f k (l0.drop ((wrap64 (a1 + 1)) : Int).toNat)).bind fun t220 => (some (t217, rd l0 a1, t220))) else (none)) else (none)) else (none)) = some (r1, r2, r3) := H
      have A5 := Aside0.mk A50
      clear A50
      by_cases c6 : a1 < (l0.length : Int)
      · rw [if_pos c6] at H
        have c6b0 : decide (a1 < (l0.length : Int)) = true := decide_eq_true c6
        clear c6
        obtain ⟨ji7, hji7⟩ : ∃ j_ : Int, (wrap64 (a1 + 1)) = j_ := ⟨_, rfl⟩
        replace H : (if 0 ≤ (ji7) then (if (ji7) ≤ (l0.length : Int) then ((impl_product.f k (l0.drop ((ji7) : Int).toNat)).bind fun t220 => (some (t217, rd l0 a1, t220))) else (none)) else (none)) = some (r1, r2, r3) := by first | (rw [hji7] at H; exact H) | (simp only [hji7] at H ⊢; exact H)
        (try rw [hji7] at A5)
        have hji7w : (IntKind.i64.wrap (a1 + 1)) = ji7 := (i64_w _).trans hji7
        by_cases c8 : 0 ≤ (ji7)
        · rw [if_pos c8] at H
          have c8b0 := eq_true c8
          have c8b1 : decide (0 ≤ (ji7)) = true := decide_eq_true c8
          clear c8
          by_cases c9 : (ji7) ≤ (l0.length : Int)
          · rw [if_pos c9] at H
            have c9b0 := eq_true c9
            have c9b1 : decide ((ji7) ≤ (l0.length : Int)) = true := decide_eq_true c9
            clear c9
            replace H := Option.bind_eq_some_iff.mp H
            obtain ⟨t220, A100, H⟩ := H
            replace H : (some (t217, rd l0 a1, t220)) = some (r1, r2, r3) := H
            have A10 := Aside0.mk A100
            clear A100
            simp only [Option.some.injEq, Prod.mk.injEq] at H
            obtain ⟨rfl, rfl, rfl⟩ := H
            obtain ⟨i011, hi011, _, hsz11, _⟩ := info_parts info3
            obtain ⟨hcut11, hA11, hC11⟩ := print_take_of (P := Try.prog) (Value.int .i64) 0 22 3 .i64 Try.underlying22 hi011 hsz11 A0 c0 l0 a1 (of_decide_eq_true (by first | (with_reducible assumption) | assumption)) (of_decide_eq_true (by first | (with_reducible assumption) | assumption)) HC0.out
            have HR216 := Aside0.mk (Kd.C_of_reads (h1 := fun _ => rfl) (hA11 _ (Kd.reads_of_C HR0.out)))
            have HC216 := Aside0.mk hC11
            clear hA11 hC11 hi011 hsz11
            obtain ⟨yrow11, hyrow11⟩ : ∃ y_ : List Int, y_ = (l0.take (a1 : Int).toNat) := ⟨_, rfl⟩
            rw [← hyrow11] at hcut11 HR216
            (try rw [← hyrow11] at HC216)
            (try rw [← hyrow11] at H')
            (try rw [← hyrow11] at H)
            (try rw [← hyrow11] at A5)
            (try rw [← hyrow11] at A10)
            have Nyrow11 := Aside0.mk hyrow11
            clear hyrow11
            go_enter Try.func80, Try.ntmps80
            go_wp2_with (first | (go_at_call 96; (with_reducible refine (impl_product.calls k _ _ yrow11 t217 _ ?side1 ?side2 A5.out).mono ?_); (case side1 => repeat (first | exact HR216.out | (with_reducible refine Kd.C_alloc ?_ _) | (with_reducible refine Kd.C_drewN ?_ _) | (with_reducible refine Kd.C_drew ?_))); (case side2 => exact HC216.out); rintro e w' ⟨rfl, ⟨nd, rfl⟩⟩; (try first | exact ⟨rfl, _, World.drewN_drewN _ _ _⟩ | exact ⟨rfl, _, Eq.trans (World.drewN_drewN _ _ _) (congrArg (World.drewN _) (Nat.add_assoc _ _ _))⟩); have p218 : 0 ≤ (a1 : Int) := of_decide_eq_true (by first | (with_reducible assumption) | assumption); have q218 : a1 < (l0.length : Int) := of_decide_eq_true (by first | (with_reducible assumption) | assumption); obtain ⟨ad218, e218, hx218_0⟩ := Kd.at_int HR0.out a1 p218 q218; cases e218; replace p218 := eq_true p218; replace q218 := eq_true q218; obtain ⟨i012, hi012, _, hsz12, _⟩ := info_parts info3; obtain ⟨A12, hcut12, hA12, hC12⟩ := print_drop_of (P := Try.prog) (Value.int .i64) 0 22 3 .i64 Try.underlying22 hi012 hsz12 (some ad218) c0 l0 (ji7) (of_decide_eq_true (by first | (with_reducible assumption) | assumption)) (of_decide_eq_true (by first | (with_reducible assumption) | assumption)) HC0.out; have HR219 := Aside0.mk (Kd.C_of_reads (h1 := fun _ => rfl) (hA12 _ (Kd.reads_of_C HR0.out))); have HC219 := Aside0.mk hC12; clear hA12 hC12 hi012 hsz12; obtain ⟨yrow12, hyrow12⟩ : ∃ y_ : List Int, y_ = (l0.drop ((ji7) : Int).toNat) := ⟨_, rfl⟩; rw [← hyrow12] at hcut12 HR219; (try rw [← hyrow12] at HC219); (try rw [← hyrow12] at H'); (try rw [← hyrow12] at H); (try rw [← hyrow12] at A5); (try rw [← hyrow12] at A10); have Nyrow12 := Aside0.mk hyrow12; clear hyrow12) | (go_at_call 96; (with_reducible refine (impl_product.calls k _ _ yrow12 t220 _ ?side1 ?side2 A10.out).mono ?_); (case side1 => repeat (first | exact HR219.out | (with_reducible refine Kd.C_alloc ?_ _) | (with_reducible refine Kd.C_drewN ?_ _) | (with_reducible refine Kd.C_drew ?_))); (case side2 => exact HC219.out); rintro e w' ⟨rfl, ⟨nd, rfl⟩⟩; (try first | exact ⟨rfl, _, World.drewN_drewN _ _ _⟩ | exact ⟨rfl, _, Eq.trans (World.drewN_drewN _ _ _) (congrArg (World.drewN _) (Nat.add_assoc _ _ _))⟩)))
            repeat (go_quiet (first | (go_at_call 96; (with_reducible refine (impl_product.calls k _ _ yrow11 t217 _ ?side1 ?side2 A5.out).mono ?_); (case side1 => repeat (first | exact HR216.out | (with_reducible refine Kd.C_alloc ?_ _) | (with_reducible refine Kd.C_drewN ?_ _) | (with_reducible refine Kd.C_drew ?_))); (case side2 => exact HC216.out); rintro e w' ⟨rfl, ⟨nd, rfl⟩⟩; (try first | exact ⟨rfl, _, World.drewN_drewN _ _ _⟩ | exact ⟨rfl, _, Eq.trans (World.drewN_drewN _ _ _) (congrArg (World.drewN _) (Nat.add_assoc _ _ _))⟩); have p218 : 0 ≤ (a1 : Int) := of_decide_eq_true (by first | (with_reducible assumption) | assumption); have q218 : a1 < (l0.length : Int) := of_decide_eq_true (by first | (with_reducible assumption) | assumption); obtain ⟨ad218, e218, hx218_0⟩ := Kd.at_int HR0.out a1 p218 q218; cases e218; replace p218 := eq_true p218; replace q218 := eq_true q218; obtain ⟨i012, hi012, _, hsz12, _⟩ := info_parts info3; obtain ⟨A12, hcut12, hA12, hC12⟩ := print_drop_of (P := Try.prog) (Value.int .i64) 0 22 3 .i64 Try.underlying22 hi012 hsz12 (some ad218) c0 l0 (ji7) (of_decide_eq_true (by first | (with_reducible assumption) | assumption)) (of_decide_eq_true (by first | (with_reducible assumption) | assumption)) HC0.out; have HR219 := Aside0.mk (Kd.C_of_reads (h1 := fun _ => rfl) (hA12 _ (Kd.reads_of_C HR0.out))); have HC219 := Aside0.mk hC12; clear hA12 hC12 hi012 hsz12; obtain ⟨yrow12, hyrow12⟩ : ∃ y_ : List Int, y_ = (l0.drop ((ji7) : Int).toNat) := ⟨_, rfl⟩; rw [← hyrow12] at hcut12 HR219; (try rw [← hyrow12] at HC219); (try rw [← hyrow12] at H'); (try rw [← hyrow12] at H); (try rw [← hyrow12] at A5); (try rw [← hyrow12] at A10); have Nyrow12 := Aside0.mk hyrow12; clear hyrow12) | (go_at_call 96; (with_reducible refine (impl_product.calls k _ _ yrow12 t220 _ ?side1 ?side2 A10.out).mono ?_); (case side1 => repeat (first | exact HR219.out | (with_reducible refine Kd.C_alloc ?_ _) | (with_reducible refine Kd.C_drewN ?_ _) | (with_reducible refine Kd.C_drew ?_))); (case side2 => exact HC219.out); rintro e w' ⟨rfl, ⟨nd, rfl⟩⟩; (try first | exact ⟨rfl, _, World.drewN_drewN _ _ _⟩ | exact ⟨rfl, _, Eq.trans (World.drewN_drewN _ _ _) (congrArg (World.drewN _) (Nat.add_assoc _ _ _))⟩))); try go_wp2_with (first | (go_at_call 96; (with_reducible refine (impl_product.calls k _ _ yrow11 t217 _ ?side1 ?side2 A5.out).mono ?_); (case side1 => repeat (first | exact HR216.out | (with_reducible refine Kd.C_alloc ?_ _) | (with_reducible refine Kd.C_drewN ?_ _) | (with_reducible refine Kd.C_drew ?_))); (case side2 => exact HC216.out); rintro e w' ⟨rfl, ⟨nd, rfl⟩⟩; (try first | exact ⟨rfl, _, World.drewN_drewN _ _ _⟩ | exact ⟨rfl, _, Eq.trans (World.drewN_drewN _ _ _) (congrArg (World.drewN _) (Nat.add_assoc _ _ _))⟩); have p218 : 0 ≤ (a1 : Int) := of_decide_eq_true (by first | (with_reducible assumption) | assumption); have q218 : a1 < (l0.length : Int) := of_decide_eq_true (by first | (with_reducible assumption) | assumption); obtain ⟨ad218, e218, hx218_0⟩ := Kd.at_int HR0.out a1 p218 q218; cases e218; replace p218 := eq_true p218; replace q218 := eq_true q218; obtain ⟨i012, hi012, _, hsz12, _⟩ := info_parts info3; obtain ⟨A12, hcut12, hA12, hC12⟩ := print_drop_of (P := Try.prog) (Value.int .i64) 0 22 3 .i64 Try.underlying22 hi012 hsz12 (some ad218) c0 l0 (ji7) (of_decide_eq_true (by first | (with_reducible assumption) | assumption)) (of_decide_eq_true (by first | (with_reducible assumption) | assumption)) HC0.out; have HR219 := Aside0.mk (Kd.C_of_reads (h1 := fun _ => rfl) (hA12 _ (Kd.reads_of_C HR0.out))); have HC219 := Aside0.mk hC12; clear hA12 hC12 hi012 hsz12; obtain ⟨yrow12, hyrow12⟩ : ∃ y_ : List Int, y_ = (l0.drop ((ji7) : Int).toNat) := ⟨_, rfl⟩; rw [← hyrow12] at hcut12 HR219; (try rw [← hyrow12] at HC219); (try rw [← hyrow12] at H'); (try rw [← hyrow12] at H); (try rw [← hyrow12] at A5); (try rw [← hyrow12] at A10); have Nyrow12 := Aside0.mk hyrow12; clear hyrow12) | (go_at_call 96; (with_reducible refine (impl_product.calls k _ _ yrow12 t220 _ ?side1 ?side2 A10.out).mono ?_); (case side1 => repeat (first | exact HR219.out | (with_reducible refine Kd.C_alloc ?_ _) | (with_reducible refine Kd.C_drewN ?_ _) | (with_reducible refine Kd.C_drew ?_))); (case side2 => exact HC219.out); rintro e w' ⟨rfl, ⟨nd, rfl⟩⟩; (try first | exact ⟨rfl, _, World.drewN_drewN _ _ _⟩ | exact ⟨rfl, _, Eq.trans (World.drewN_drewN _ _ _) (congrArg (World.drewN _) (Nat.add_assoc _ _ _))⟩))))
            go_ret3
            exact ⟨by first | rfl | (simp; done) | (simp only [← hji7] <;> (first | rfl | simp)) | (simp [*]; done), by repeat (first | exact Drawn0.refl _ | apply Drawn0.step)⟩
          · rw [if_neg c9] at H
            exact absurd H (by simp)
        · rw [if_neg c8] at H
          exact absurd H (by simp)
      · rw [if_neg c6] at H
        exact absurd H (by simp)
    · rw [if_neg c4] at H
      exact absurd H (by simp)
  · rw [if_neg c3] at H
    exact absurd H (by simp)

/-! ### impl_along: function 94 -/
/-- make([]T, 0, n): an empty row of one's own, with room. -/
theorem make_cap {P : Program} {ops : Array Oper} {rest : List Oper} {o : Oper} {a : Act} {Q : Exit → Act → World → Prop} {α : Type} (d : Kd α) {w0 W : World} (base e : Nat) (hgd : o.guard = none) {N : Tmp} (hd : o.dst = some N) (t : TypeId) (x y : Operand) (ho : o.op = .makeSlice t x y) (n : Int) (hx : a.eval x = .int .i64 0) (hy : a.eval y = .int .i64 n)
    (ht : P.underlying t = some (.slice e)) (z : Value) (bytes : Nat) (hinfo : (P.info? e).map (fun i => (i.zero, i.size, i.bytes)) = some (some z, d.sz, bytes)) (hz : z.cells.size = d.sz) (hs0 : 0 < d.sz) (hb0 : 0 < bytes)
    {ok okp : Nat → Prop} (hok : ∀ k, okp k → ok k) (hfresh : ok W.heap.size) (h0 : 0 ≤ n) (hl : n.toNat * bytes ≤ 281474976710656) (HB : Below base w0 W) (hbase : base ≤ W.heap.size)
    (h : ∀ v1 w1, d.R e w1 base ok v1 [] → Below base w0 w1 → W.grownBy w1 none → (∃ b, v1.ownBlock = some b ∧ W.heap.size ≤ b) → wpList P ops Q rest (a.put o.dst v1) w1) : wpList P ops Q (o :: rest) a W := by
  obtain ⟨m, rfl⟩ := Int.eq_ofNat_of_zero_le h0
  simp only [Int.toNat_natCast] at hl
  obtain ⟨i0, hi, hzz⟩ := Option.map_eq_some_iff.1 hinfo
  simp only [Prod.mk.injEq] at hzz
  obtain ⟨hz0, hz1, hz2⟩ := hzz
  have hm : m ≤ 281474976710656 := Nat.le_trans (Nat.le_mul_of_pos_right _ hb0) hl
  have hr := run_make (P := P) W t e i0 z ht hi hz0 .i64 .i64 0 (m : Int) (by omega) (by omega)
    (by
      have h3 : ((i0.bytes * m : Nat) : Int) ≤ 281474976710656 := by rw [hz2, Nat.mul_comm]; omega
      rwa [Int.natCast_mul] at h3) (by omega)
  simp only [Int.toNat_natCast, Int.toNat_zero] at hr
  rw [hz1] at hr
  have hrun : (execOp a.eval o).run P W = .ok (.value (.slice (some ⟨W.heap.size, 0, none⟩) 0 m)) (W.alloc (.cells (madeCells z.cells (m * d.sz)) e)) := by simp [execOp, ho, hx, hy, hr]
  have h2 := own_take (World.ownsRow_lit (base := base) (e := e) (size := d.sz) W (madeCells z.cells (m * d.sz)) m hbase (by simp [maxLen]; omega) (by simp [madeCells])) (Nat.zero_le m)
  refine Kd.event_run hgd hrun (h _ _ ⟨fun k hk => ?_, [], ?_, Reps.none _ _⟩ (HB.alloc hbase _) (World.grownBy_alloc W _ none) ⟨W.heap.size, by simp [Value.ownBlock], Nat.le_refl _⟩)
  · have : W.heap.size = k := by simpa [Value.ownBlock] using hk
    subst this
    exact hfresh
  · simpa using h2
mutual
def impl_along.l0 : Nat → Int → List (S113) → Int → Int → Int → List (S113) → Int → Option ((List (S113)))
  | 0, _, _, _, _, _, _, _ => none
  | k + 1, x2, x3, x9, x10, x11, x12, x13 => if x13 < x9 then (impl_along.l1 k x2 x3 x9 x10 x11 x12 x13 x3 (x3.length : Int) 0) else (some x12)
def impl_along.l1 : Nat → Int → List (S113) → Int → Int → Int → List (S113) → Int → List (S113) → Int → Int → Option ((List (S113)))
  | 0, _, _, _, _, _, _, _, _, _, _ => none
  | k + 1, x2, x3, x9, x10, x11, x12, x13, x36, x37, x38 => if x38 < x37 then (if 0 ≤ x38 then (if x38 < (x36.length : Int) then (impl_along.l2 k x2 x3 x9 x10 x11 x12 x13 0 x36 x37 x38 ((rd_T113 x36 x38).f0) ((rd_T113 x36 x38).f1)) else (none)) else (none)) else (impl_along.l0 k x2 x3 x9 x10 x11 x12 (wrap64 (x13 + 1)))
def impl_along.l2 : Nat → Int → List (S113) → Int → Int → Int → List (S113) → Int → Int → List (S113) → Int → Int → Int → Int → Option ((List (S113)))
  | 0, _, _, _, _, _, _, _, _, _, _, _, _, _ => none
  | k + 1, x2, x3, x9, x10, x11, x12, x13, x16, x36, x37, x38, x229000, x229001 => if x16 < x11 then (if x12.length < 8796093022208 then (impl_along.l2 k x2 x3 x9 x10 x11 (x12 ++ [(⟨wrap64 ((wrap64 ((wrap64 ((wrap64 (x13 * x10)) + x229000)) * x11)) + x16), wrap64 ((wrap64 ((wrap64 ((wrap64 (x13 * x2)) + x229001)) * x11)) + x16)⟩ : S113)]) x13 (wrap64 (x16 + 1)) x36 x37 x38 x229000 x229001) else (none)) else (impl_along.l1 k x2 x3 x9 x10 x11 x12 x13 x36 x37 (wrap64 (x38 + 1)))
end
def impl_along.f (k : Nat) (l0 : List Int) (a1 : Int) (a2 : Int) (l3 : List (S113)) : Option ((List (S113))) := (impl_lines.f k l0 a1).bind fun bt221 => (if 0 ≤ (wrap64 ((wrap64 (bt221.1 * bt221.2.2)) * (l3.length : Int))) then (if (wrap64 ((wrap64 (bt221.1 * bt221.2.2)) * (l3.length : Int)) : Int).toNat ≤ 17592186044416 then (impl_along.l0 k a2 l3 bt221.1 bt221.2.1 bt221.2.2 (([] : List (S113))) 0) else (none)) else (none))
theorem impl_along.mono_l : ∀ k, (∀ y0 y1 y2 y3 y4 y5 y6, LeO (impl_along.l0 k y0 y1 y2 y3 y4 y5 y6) (impl_along.l0 (k + 1) y0 y1 y2 y3 y4 y5 y6)) ∧ (∀ y0 y1 y2 y3 y4 y5 y6 y7 y8 y9, LeO (impl_along.l1 k y0 y1 y2 y3 y4 y5 y6 y7 y8 y9) (impl_along.l1 (k + 1) y0 y1 y2 y3 y4 y5 y6 y7 y8 y9)) ∧ (∀ y0 y1 y2 y3 y4 y5 y6 y7 y8 y9 y10 y11 y12, LeO (impl_along.l2 k y0 y1 y2 y3 y4 y5 y6 y7 y8 y9 y10 y11 y12) (impl_along.l2 (k + 1) y0 y1 y2 y3 y4 y5 y6 y7 y8 y9 y10 y11 y12))
  | 0 => ⟨fun _ _ _ _ _ _ _ r h => by simp [impl_along.l0] at h, fun _ _ _ _ _ _ _ _ _ _ r h => by simp [impl_along.l1] at h, fun _ _ _ _ _ _ _ _ _ _ _ _ _ r h => by simp [impl_along.l2] at h⟩
  | k + 1 => by
    obtain ⟨ih0, ih1, ih2⟩ := impl_along.mono_l k
    refine ⟨?_, ?_, ?_⟩
    · intro y0 y1 y2 y3 y4 y5 y6
      unfold impl_along.l0
      repeat' first
      | (with_reducible exact ih0 _ _ _ _ _ _ _)
      | (with_reducible exact ih1 _ _ _ _ _ _ _ _ _ _)
      | (with_reducible exact ih2 _ _ _ _ _ _ _ _ _ _ _ _ _)
      | (with_reducible exact impl_lines.mono _ _ _)
      | (with_reducible exact LeO.refl _)
      | (with_reducible exact LeO.none _)
      | (with_reducible refine LeO.ite ?_ ?_)
      | (with_reducible refine LeO.bind ?_ (fun _ => ?_))
      | exact ih0 _ _ _ _ _ _ _
      | exact ih1 _ _ _ _ _ _ _ _ _ _
      | exact ih2 _ _ _ _ _ _ _ _ _ _ _ _ _
      | exact impl_lines.mono _ _ _
      | exact LeO.none _
      | refine LeO.ite ?_ ?_
      | refine LeO.bind ?_ (fun _ => ?_)
    · intro y0 y1 y2 y3 y4 y5 y6 y7 y8 y9
      unfold impl_along.l1
      repeat' first
      | (with_reducible exact ih0 _ _ _ _ _ _ _)
      | (with_reducible exact ih1 _ _ _ _ _ _ _ _ _ _)
      | (with_reducible exact ih2 _ _ _ _ _ _ _ _ _ _ _ _ _)
      | (with_reducible exact impl_lines.mono _ _ _)
      | (with_reducible exact LeO.refl _)
      | (with_reducible exact LeO.none _)
      | (with_reducible refine LeO.ite ?_ ?_)
      | (with_reducible refine LeO.bind ?_ (fun _ => ?_))
      | exact ih0 _ _ _ _ _ _ _
      | exact ih1 _ _ _ _ _ _ _ _ _ _
      | exact ih2 _ _ _ _ _ _ _ _ _ _ _ _ _
      | exact impl_lines.mono _ _ _
      | exact LeO.none _
      | refine LeO.ite ?_ ?_
      | refine LeO.bind ?_ (fun _ => ?_)
    · intro y0 y1 y2 y3 y4 y5 y6 y7 y8 y9 y10 y11 y12
      unfold impl_along.l2
      repeat' first
      | (with_reducible exact ih0 _ _ _ _ _ _ _)
      | (with_reducible exact ih1 _ _ _ _ _ _ _ _ _ _)
      | (with_reducible exact ih2 _ _ _ _ _ _ _ _ _ _ _ _ _)
      | (with_reducible exact impl_lines.mono _ _ _)
      | (with_reducible exact LeO.refl _)
      | (with_reducible exact LeO.none _)
      | (with_reducible refine LeO.ite ?_ ?_)
      | (with_reducible refine LeO.bind ?_ (fun _ => ?_))
      | exact ih0 _ _ _ _ _ _ _
      | exact ih1 _ _ _ _ _ _ _ _ _ _
      | exact ih2 _ _ _ _ _ _ _ _ _ _ _ _ _
      | exact impl_lines.mono _ _ _
      | exact LeO.none _
      | refine LeO.ite ?_ ?_
      | refine LeO.bind ?_ (fun _ => ?_)
theorem impl_along.mono : ∀ a0 a1 a2 a3 k, LeO (impl_along.f k a0 a1 a2 a3) (impl_along.f (k + 1) a0 a1 a2 a3) := by
  intro a0 a1 a2 a3 k
  obtain ⟨ih0, ih1, ih2⟩ := impl_along.mono_l k
  unfold impl_along.f
  repeat' first
      | (with_reducible exact ih0 _ _ _ _ _ _ _)
      | (with_reducible exact ih1 _ _ _ _ _ _ _ _ _ _)
      | (with_reducible exact ih2 _ _ _ _ _ _ _ _ _ _ _ _ _)
      | (with_reducible exact impl_lines.mono _ _ _)
      | (with_reducible exact LeO.refl _)
      | (with_reducible exact LeO.none _)
      | (with_reducible refine LeO.ite ?_ ?_)
      | (with_reducible refine LeO.bind ?_ (fun _ => ?_))
      | exact ih0 _ _ _ _ _ _ _
      | exact ih1 _ _ _ _ _ _ _ _ _ _
      | exact ih2 _ _ _ _ _ _ _ _ _ _ _ _ _
      | exact impl_lines.mono _ _ _
      | exact LeO.none _
      | refine LeO.ite ?_ ?_
      | refine LeO.bind ?_ (fun _ => ?_)
set_option maxHeartbeats 8000000 in
set_option maxRecDepth 100000 in
theorem impl_along.calls (k : Nat) (A0 : Option Addr) (c0 : Nat) (l0 : List Int) (a1 : Int) (a2 : Int) (A3 : Option Addr) (c3 : Nat) (l3 : List (S113)) (r : List (S113)) (w : World) (hr0 : Kd.C (Kd.int .i64) w A0 l0.length l0) (hc0 : l0.length ≤ c0) (hr3 : Kd.C k113 w A3 l3.length l3) (hc3 : l3.length ≤ c3) (h : impl_along.f k l0 a1 a2 l3 = some r) :
    Calls Try.prog 94 #[.slice A0 l0.length c0, .int .i64 a1, .int .i64 a2, .slice A3 l3.length c3] w fun e w' => ∃ v0_ : Value, e = .returned (v0_) ∧ Kd.R k113 113 w' w.heap.size (fun _ => True) v0_ r ∧ Below w.heap.size w w' := by
  have hu113 := Try.underlying113
  have HR0 := Aside0.mk hr0
  have HC0 := Aside0.mk hc0
  clear hr0 hc0
  have HR3 := Aside0.mk hr3
  have HC3 := Aside0.mk hc3
  clear hr3 hc3
  have HB := Aside0.mk (Below.refl w.heap.size w)
  have H : ((impl_lines.f k l0 a1).bind fun bt221 => (if 0 ≤ (wrap64 ((wrap64 (bt221.1 * bt221.2.2)) * (l3.length : Int))) then (if (wrap64 ((wrap64 (bt221.1 * bt221.2.2)) * (l3.length : Int)) : Int).toNat ≤ 17592186044416 then (impl_along.l0 k a2 l3 bt221.1 bt221.2.1 bt221.2.2 (([] : List (S113))) 0) else (none)) else (none))) = some r := h
  clear h
  replace H := Option.bind_eq_some_iff.mp H
  obtain ⟨⟨t221, t222, t223⟩, A50, H⟩ := H
  replace H : (if 0 ≤ (wrap64 ((wrap64 (t221 * t223)) * (l3.length : Int))) then (if (wrap64 ((wrap64 (t221 * t223)) * (l3.length : Int)) : Int).toNat ≤ 17592186044416 then (impl_along.l0 k a2 l3 t221 t222 t223 (([] : List (S113))) 0) else (none)) else (none)) = some r := H
  have A5 := Aside0.mk A50
  clear A50
  obtain ⟨ji6, hji6⟩ : ∃ j_ : Int, (wrap64 ((wrap64 (t221 * t223)) * (l3.length : Int))) = j_ := ⟨_, rfl⟩
  replace H : (if 0 ≤ (ji6) then (if (ji6 : Int).toNat ≤ 17592186044416 then (impl_along.l0 k a2 l3 t221 t222 t223 (([] : List (S113))) 0) else (none)) else (none)) = some r := by first | (rw [hji6] at H; exact H) | (simp only [hji6] at H ⊢; exact H)
  (try rw [hji6] at A5)
  have hji6w : (IntKind.i64.wrap ((wrap64 (t221 * t223)) * (l3.length : Int))) = ji6 := (i64_w _).trans hji6
  by_cases c7 : 0 ≤ (ji6)
  · rw [if_pos c7] at H
    have c7b0 := eq_true c7
    have c7b1 : decide (0 ≤ (ji6)) = true := decide_eq_true c7
    clear c7
    by_cases c8 : (ji6 : Int).toNat ≤ 17592186044416
    · rw [if_pos c8] at H
      have c8b0 := eq_true c8
      have c8b1 : decide ((ji6 : Int).toNat ≤ 17592186044416) = true := decide_eq_true c8
      clear c8
      obtain ⟨y224, hy224⟩ : ∃ y_ : List (S113), y_ = (([] : List (S113))) := ⟨_, rfl⟩
      replace H : (impl_along.l0 k a2 l3 t221 t222 t223 y224 0) = some r := by first | (rw [hy224]; with_reducible exact H) | (have H2_ := (Option.bind_some _ _).symm.trans H; rw [hy224]; with_reducible exact H2_) | (have H2_ := (Option.bind_some _ _).symm.trans H; with_reducible exact H2_) | with_reducible exact H | (rw [hy224]; exact H) | exact H
      have Ny224 := Aside0.mk hy224
      clear hy224
      have H' := Aside0.mk H
      clear H
      go_enter Try.func94, Try.ntmps94
      go_wp2_with (first | ((with_reducible refine gate_callee (f := 80) rfl ?_); refine goesL_ (some 20) rfl rfl Try.func80 (by kernel_rfl) rfl #[.slice A0 l0.length c0, .int .i64 a1] rfl (by (try simp only [List.map_toArray, List.map_cons, List.map_nil]); first | done | rfl | (simp only [List.length_drop, List.length_take]; rfl)) ?_; (with_reducible refine (impl_lines.calls k _ _ l0 a1 t221 t222 t223 _ ?side1 ?side2 A5.out).mono ?_); (case side1 => repeat (first | exact HR0.out | (with_reducible refine Kd.C_alloc ?_ _) | (with_reducible refine Kd.C_drewN ?_ _) | (with_reducible refine Kd.C_drew ?_))); (case side2 => exact HC0.out); rintro e w' ⟨rfl, ⟨nd, rfl⟩⟩; refine ⟨_, rfl, ?_⟩) | ((with_reducible refine gate_dst (N := 30) rfl ?_); refine make_cap k113 _ 113 rfl (N := 30) rfl 85 _ _ rfl ji6 rfl rfl Try.underlying85 (.agg #[(.int .i64 0), (.int .i64 0)]) 16 info113 rfl (by decide) (by omega) (ok := fun _ => True) (okp := fun _ => True) (fun _ hk => hk) trivial (of_decide_eq_true (by first | (with_reducible assumption) | assumption)) (Nat.le_trans (Nat.mul_le_mul_right _ (of_decide_eq_true (by first | (with_reducible assumption) | assumption) : ji6.toNat ≤ 17592186044416)) (by omega)) (Below.refl _ _) (Nat.le_refl _) ?_; intro v225 w9 ho10 hb hg_ hnew_; clear hg_ hnew_; (first | rw [← Ny224.out] at ho10 | (simp only [Int.reduceToNat] at ho10; rw [← Ny224.out] at ho10)); have n0_ := Aside0.mk (Kd.R_lower ho10 (below_size (by repeat (first | (with_reducible first | exact HB.out | apply below_alloc | apply pw_below_drewN | apply below_drew1) | exact HB.out)))); have n1_ := Aside0.mk (below_step (by repeat (first | (with_reducible first | exact HB.out | apply below_alloc | apply pw_below_drewN | apply below_drew1) | exact HB.out)) hb); clear HB; have HO226 := n0_; have HB := n1_; clear n0_ n1_; clear hb ho10))
      go_loopg [12, 13] k (fun kq v12 v13 w' => ∃ (x12_1 : List (S113)) (x13_1 : Int), v13 = .int .i64 x13_1 ∧ Aside0 (impl_along.l0 kq a2 l3 t221 t222 t223 x12_1 x13_1 = some r) ∧ Aside0 (kq ≤ k) ∧ Aside0 (Kd.R k113 113 w' w.heap.size (fun _ => True) v12 x12_1) ∧ Aside0 (Below w.heap.size w w'))
      case atStart => exact ⟨(y224), (0), (by first | rfl | (simp; done) | (simp [*]; done)), H', ⟨Nat.le_refl _⟩, ⟨by (with_reducible repeat (first | apply Kd.R_alloc | apply Kd.R_drewN | apply Kd.R_drew)); exact HO226.out⟩, ⟨by repeat (first | (with_reducible first | exact HB.out | apply below_alloc | apply pw_below_drewN | apply below_drew1) | exact HB.out)⟩⟩
      case round =>
        clear H'
        try clear p2
        try clear c3
        try clear p6
        try clear c7
        try clear c7b0
        try clear c7b1
        try clear c8
        try clear c8b0
        try clear c8b1
        try clear c9
        obtain ⟨x12_1, x13_1, rfl, HA, HK1, HO_12, HB⟩ := hrel
        cases gk with
        | zero => exact absurd HA.out (by simp [impl_along.l0])
        | succ k1 =>
          have H := HA.out
          clear HA
          simp only [impl_along.l0] at H
          by_cases c11 : x13_1 < t221
          · rw [if_pos c11] at H
            have c11b0 : decide (x13_1 < t221) = true := decide_eq_true c11
            clear c11
            have H' := Aside0.mk H
            clear H
            go_wp2
            go_loopg [12, 38] k1 (fun kq v12 v38 w' => ∃ (x12_2 : List (S113)) (x38_2 : Int), v38 = .int .i64 x38_2 ∧ Aside0 (impl_along.l1 kq a2 l3 t221 t222 t223 x12_2 x13_1 l3 (l3.length : Int) x38_2 = some r) ∧ Aside0 (kq ≤ k1) ∧ Aside0 (Kd.R k113 113 w' w.heap.size (fun _ => True) v12 x12_2) ∧ Aside0 (Below w.heap.size w w'))
            case atStart => exact ⟨(x12_1), (0), (by first | rfl | (simp; done) | (simp [*]; done)), H', ⟨Nat.le_refl _⟩, ⟨by (with_reducible repeat (first | apply Kd.R_alloc | apply Kd.R_drewN | apply Kd.R_drew)); exact HO_12.out⟩, ⟨by repeat (first | (with_reducible first | exact HB.out | apply below_alloc | apply pw_below_drewN | apply below_drew1) | exact HB.out)⟩⟩
            case round =>
              clear H'
              try clear c1
              try clear p2
              try clear c3
              try clear p6
              try clear c7
              try clear c7b0
              try clear c7b1
              try clear c8
              try clear c8b0
              try clear c8b1
              try clear c9
              try clear c11
              try clear c11b0
              try clear p2
              try clear p6
              obtain ⟨x12_2, x38_2, rfl, HA, HK2, HO_12, HB⟩ := hrel
              cases gk with
              | zero => exact absurd HA.out (by simp [impl_along.l1])
              | succ k2 =>
                have H := HA.out
                clear HA
                simp only [impl_along.l1] at H
                by_cases c12 : x38_2 < (l3.length : Int)
                · rw [if_pos c12] at H
                  have c12b0 : decide (x38_2 < (l3.length : Int)) = true := decide_eq_true c12
                  clear c12
                  by_cases c13 : 0 ≤ x38_2
                  · rw [if_pos c13] at H
                    have c13b0 : decide (0 ≤ x38_2) = true := decide_eq_true c13
                    clear c13
                    by_cases c14 : x38_2 < (l3.length : Int)
                    · rw [if_pos c14] at H
                      have c14b0 : decide (x38_2 < (l3.length : Int)) = true := decide_eq_true c14
                      clear c14
                      have H' := Aside0.mk H
                      clear H
                      have p227 : 0 ≤ (x38_2 : Int) := of_decide_eq_true (by first | (with_reducible assumption) | assumption)
                      have q227 : x38_2 < (l3.length : Int) := of_decide_eq_true (by first | (with_reducible assumption) | assumption)
                      obtain ⟨ad227, e227, hx227_0, hx227_1⟩ := at_T113 HR3.out x38_2 p227 q227
                      cases e227
                      replace hx227_0 := (HB.out.cell (World.block_lt_of_cell? w _ hx227_0)).trans hx227_0
                      replace hx227_1 := (HB.out.cell (World.block_lt_of_cell? w _ hx227_1)).trans hx227_1
                      replace p227 := eq_true p227
                      replace q227 := eq_true q227
                      go_wp2_with (first | ((with_reducible refine gate_dst (N := 15) rfl ?_); refine box_event ?hg (N := 15) ?hd (cs := #[.int .i64 0, .int .i64 0]) (t := 113) ?hr ?_; (case hd => rfl); (case hg => rfl); (case hr => first | (go_simp; done) | (go_simp; rfl)); intro gb228 hg w15 hbox hb; have n0_ := Aside0.mk (Kd.R_below (Kd.R_elderB (by (with_reducible repeat (first | apply Kd.R_alloc | apply Kd.R_drewN | apply Kd.R_drew)); exact HO_12.out) gb228 (Nat.le_of_eq hg.symm)) hb); have n1_ := Aside0.mk (below_step (by repeat (first | (with_reducible first | exact HB.out | apply below_alloc | apply pw_below_drewN | apply below_drew1) | exact HB.out)) hb); have n2_ := Aside0.mk (hbox); have n3_ := Aside0.mk ((by rw [hg]; exact (below_size (by repeat (first | (with_reducible first | exact HB.out | apply below_alloc | apply pw_below_drewN | apply below_drew1) | exact HB.out))) : w.heap.size ≤ gb228)); have n4_ := Aside0.mk ((by rw [hg]; exact (below_size (by repeat (first | (with_reducible first | exact HB.out | apply below_alloc | apply pw_below_drewN | apply below_drew1) | exact HB.out))) : w.heap.size ≤ gb228)); clear HO_12; clear HB; have HO_12 := n0_; have HB := n1_; have BK228 := n2_; have GW228 := n3_; have GE228 := n4_; clear n0_ n1_ n2_ n3_ n4_; clear hb hbox hg; have hcz16_0 : w15.cell? ⟨gb228, 0, none⟩ = some (.int .i64 0) := (blk_cell BK228.out 0).trans rfl; have hcz16_1 : w15.cell? ⟨gb228, 1, none⟩ = some (.int .i64 0) := (blk_cell BK228.out 1).trans rfl; have hfz16_0 := blk_frozen BK228.out 0; have hfz16_1 := blk_frozen BK228.out 1))
                      go_loopg [12, 16] k2 (fun kq v12 v16 w' => ∃ (x12_3 : List (S113)) (x16_3 : Int), v16 = .int .i64 x16_3 ∧ Aside0 (impl_along.l2 kq a2 l3 t221 t222 t223 x12_3 x13_1 x16_3 l3 (l3.length : Int) x38_2 ((rd_T113 l3 x38_2).f0) ((rd_T113 l3 x38_2).f1) = some r) ∧ Aside0 (kq ≤ k2) ∧ Aside0 (Kd.R k113 113 w' w.heap.size (fun k_ => k_ ≠ gb228) v12 x12_3) ∧ Aside0 (w'.heap[gb228]? = some (.cells #[.int .i64 ((rd_T113 l3 x38_2).f0), .int .i64 ((rd_T113 l3 x38_2).f1)] 113 (0, 0))) ∧ Aside0 (Below w.heap.size w w'))
                      case atStart => exact ⟨(x12_2), (0), (by first | rfl | (simp; done) | (simp [*]; done)), H', ⟨Nat.le_refl _⟩, ⟨by (with_reducible repeat (first | apply Kd.R_alloc | apply Kd.R_drewN | apply Kd.R_drew)); exact Kd.R_mono (Kd.R_far (p := ⟨gb228, 1, none⟩) (Kd.R_far (p := ⟨gb228, 0, none⟩) (Kd.R_mono HO_12.out (fun k_ hk => (⟨hk, hk.2⟩ : _ ∧ k_ ≠ gb228))) (fun _ hk => hk.2) (.int .i64 ((rd_T113 l3 x38_2).f0))) (fun _ hk => hk.2) (.int .i64 ((rd_T113 l3 x38_2).f1))) (fun _ hk => by first | exact hk.1.2 | exact hk.1)⟩, ⟨by (with_reducible repeat (first | refine blk_drewN ?_ _ | refine blk_drew ?_ | refine blk_alloc ?_ _)); refine blk_put (cs := #[.int .i64 ((rd_T113 l3 x38_2).f0), .int .i64 0]) ?_ 1 _ rfl; (with_reducible repeat (first | refine blk_drewN ?_ _ | refine blk_drew ?_ | refine blk_alloc ?_ _)); refine blk_put (cs := #[.int .i64 0, .int .i64 0]) ?_ 0 _ rfl; (with_reducible repeat (first | refine blk_drewN ?_ _ | refine blk_drew ?_ | refine blk_alloc ?_ _)); exact BK228.out⟩, ⟨by repeat (first | (with_reducible first | exact HB.out | apply below_alloc | apply pw_below_drewN | apply below_drew1 | refine below_set ?_ GE228.out) | exact HB.out)⟩⟩
                      case round =>
                        clear H'
                        try clear c1
                        try clear p2
                        try clear q2
                        try clear hx2
                        try clear c3
                        try clear p6
                        try clear c7
                        try clear c7b0
                        try clear c7b1
                        try clear c8
                        try clear c8b0
                        try clear c8b1
                        try clear c9
                        try clear c11
                        try clear c11b0
                        try clear c12
                        try clear c12b0
                        try clear c13
                        try clear c13b0
                        try clear c14
                        try clear c14b0
                        try clear hcz16_0
                        try clear hcz16_1
                        try clear hfz16_0
                        try clear hfz16_1
                        try clear hx227_0
                        try clear hx227_1
                        try clear p2
                        try clear p227
                        try clear p6
                        try clear q227
                        obtain ⟨x12_3, x16_3, rfl, HA, HK3, HO_12, BK228, HB⟩ := hrel
                        cases gk with
                        | zero => exact absurd HA.out (by simp [impl_along.l2])
                        | succ k3 =>
                          have H := HA.out
                          clear HA
                          simp only [impl_along.l2] at H
                          by_cases c17 : x16_3 < t223
                          · rw [if_pos c17] at H
                            have c17b0 : decide (x16_3 < t223) = true := decide_eq_true c17
                            clear c17
                            by_cases c18 : x12_3.length < 8796093022208
                            · rw [if_pos c18] at H
                              have LMc18 := Aside0.mk c18
                              clear c18
                              obtain ⟨y229, hy229⟩ : ∃ y_ : List (S113), y_ = (x12_3 ++ [(⟨wrap64 ((wrap64 ((wrap64 ((wrap64 (x13_1 * t222)) + ((rd_T113 l3 x38_2).f0))) * t223)) + x16_3), wrap64 ((wrap64 ((wrap64 ((wrap64 (x13_1 * a2)) + ((rd_T113 l3 x38_2).f1))) * t223)) + x16_3)⟩ : S113)]) := ⟨_, rfl⟩
                              replace H : (impl_along.l2 k3 a2 l3 t221 t222 t223 y229 x13_1 (wrap64 (x16_3 + 1)) l3 (l3.length : Int) x38_2 ((rd_T113 l3 x38_2).f0) ((rd_T113 l3 x38_2).f1)) = some r := by first | (rw [hy229]; with_reducible exact H) | (have H2_ := (Option.bind_some _ _).symm.trans H; rw [hy229]; with_reducible exact H2_) | (have H2_ := (Option.bind_some _ _).symm.trans H; with_reducible exact H2_) | with_reducible exact H | (rw [hy229]; exact H) | exact H
                              have Ny229 := Aside0.mk hy229
                              clear hy229
                              have H' := Aside0.mk H
                              clear H
                              have hcz19_0 : wr.cell? ⟨gb228, 0, none⟩ = some (.int .i64 ((rd_T113 l3 x38_2).f0)) := (blk_cell BK228.out 0).trans rfl
                              have hcz19_1 : wr.cell? ⟨gb228, 1, none⟩ = some (.int .i64 ((rd_T113 l3 x38_2).f1)) := (blk_cell BK228.out 1).trans rfl
                              have hfz19_0 := blk_frozen BK228.out 0
                              have hfz19_1 := blk_frozen BK228.out 1
                              go_wp2_with (first | ((with_reducible refine gate_builtin (b := .append) (xs := #[.tmp 47, .tmp 69]) rfl ?_); at_builtin; refine Kd.R_append k113 (w0 := w) w.heap.size rfl (.tmp 47) (.tmp 69) 85 113 (.agg #[(.int .i64 0), (.int .i64 0)]) 16 rfl Try.underlying85 info113 rfl (by decide) (by omega) u12 x12_3 (⟨wrap64 ((wrap64 ((wrap64 ((wrap64 (x13_1 * t222)) + ((rd_T113 l3 x38_2).f0))) * t223)) + x16_3), wrap64 ((wrap64 ((wrap64 ((wrap64 (x13_1 * a2)) + ((rd_T113 l3 x38_2).f1))) * t223)) + x16_3)⟩ : S113) [.int .i64 (wrap64 ((wrap64 ((wrap64 ((wrap64 (x13_1 * t222)) + ((rd_T113 l3 x38_2).f0))) * t223)) + x16_3)), .int .i64 (wrap64 ((wrap64 ((wrap64 ((wrap64 (x13_1 * a2)) + ((rd_T113 l3 x38_2).f1))) * t223)) + x16_3))] (fun k_ => k_ ≠ gb228) (fun _ => False) rfl rfl ?aP (fun _ hk => hk.elim) ?aF ?aO ?aB ?aS ?aL ?_; (case aP => exact k113_mkM _ _ _ (⟨wrap64 ((wrap64 ((wrap64 ((wrap64 (x13_1 * t222)) + ((rd_T113 l3 x38_2).f0))) * t223)) + x16_3), wrap64 ((wrap64 ((wrap64 ((wrap64 (x13_1 * a2)) + ((rd_T113 l3 x38_2).f1))) * t223)) + x16_3)⟩ : S113)); (case aB => exact (by repeat (first | (with_reducible first | exact HB.out | apply below_alloc | apply pw_below_drewN | apply below_drew1 | refine below_set ?_ GE228.out) | exact HB.out))); (case aF => exact (fun k_ hk => Kd.freshB (g := gb228) (o := .cells #[.int .i64 ((rd_T113 l3 x38_2).f0), .int .i64 ((rd_T113 l3 x38_2).f1)] 113 (0, 0)) (by (with_reducible repeat (first | refine blk_drewN ?_ _ | refine blk_drew ?_ | refine blk_alloc ?_ _)); exact BK228.out) k_ hk)); (case aO => exact (by (with_reducible repeat (first | apply Kd.R_alloc | apply Kd.R_drewN | apply Kd.R_drew)); exact HO_12.out)); (case aS => exact (below_size (by repeat (first | (with_reducible first | exact HB.out | apply below_alloc | apply pw_below_drewN | apply below_drew1 | refine below_set ?_ GE228.out) | exact HB.out)))); (case aL => have := LMc18.out; omega); intro v230 w20 ho hb hg hat; rw [← Ny229.out] at ho; have n0_ := Aside0.mk (blk_grown (g := gb228) (o := .cells #[.int .i64 ((rd_T113 l3 x38_2).f0), .int .i64 ((rd_T113 l3 x38_2).f1)] 113 (0, 0)) (by (with_reducible repeat (first | refine blk_drewN ?_ _ | refine blk_drew ?_ | refine blk_alloc ?_ _)); exact BK228.out) hg (Kd.R_away HO_12.out (fun _ hk => hk))); have n1_ := Aside0.mk (hb); have n2_ := Aside0.mk (ho); clear BK228; clear HB; clear HO_12; have BK228 := n0_; have HB := n1_; have HO231 := n2_; clear n0_ n1_ n2_; clear ho hb hg hat))
                              go_roundg k3
                              case measure => have := HK1.out; have := HK2.out; have := HK3.out; omega
                              case rel => exact ⟨(y229), (wrap64 (x16_3 + 1)), (by first | rfl | (simp; done) | (simp [*]; done)), H', ⟨by have := HK1.out; have := HK2.out; have := HK3.out; omega⟩, ⟨by (with_reducible repeat (first | apply Kd.R_alloc | apply Kd.R_drewN | apply Kd.R_drew)); exact HO231.out⟩, ⟨by (with_reducible repeat (first | refine blk_drewN ?_ _ | refine blk_drew ?_ | refine blk_alloc ?_ _)); exact BK228.out⟩, ⟨by repeat (first | (with_reducible first | exact HB.out | apply below_alloc | apply pw_below_drewN | apply below_drew1 | refine below_set ?_ GE228.out) | exact HB.out)⟩⟩
                            · rw [if_neg c18] at H
                              exact absurd H (by simp)
                          · rw [if_neg c17] at H
                            have c17b0 : decide (x16_3 < t223) = false := decide_eq_false c17
                            clear c17
                            have H' := Aside0.mk H
                            clear H
                            go_wp2
                            go_roundg k3
                            case measure => have := HK1.out; have := HK2.out; have := HK3.out; omega
                            case rel => exact ⟨(x12_3), (wrap64 (x38_2 + 1)), (by first | rfl | (simp; done) | (simp [*]; done)), H', ⟨by have := HK1.out; have := HK2.out; have := HK3.out; omega⟩, ⟨by (with_reducible repeat (first | apply Kd.R_alloc | apply Kd.R_drewN | apply Kd.R_drew)); exact Kd.R_mono HO_12.out (fun _ hk => trivial)⟩, ⟨by repeat (first | (with_reducible first | exact HB.out | apply below_alloc | apply pw_below_drewN | apply below_drew1 | refine below_set ?_ GE228.out) | exact HB.out)⟩⟩
                    · rw [if_neg c14] at H
                      exact absurd H (by simp)
                  · rw [if_neg c13] at H
                    exact absurd H (by simp)
                · rw [if_neg c12] at H
                  have c12b0 : decide (x38_2 < (l3.length : Int)) = false := decide_eq_false c12
                  clear c12
                  have H' := Aside0.mk H
                  clear H
                  go_wp2
                  go_roundg k2
                  case measure => have := HK1.out; have := HK2.out; omega
                  case rel => exact ⟨(x12_2), (wrap64 (x13_1 + 1)), (by first | rfl | (simp; done) | (simp [*]; done)), H', ⟨by have := HK1.out; have := HK2.out; omega⟩, ⟨by (with_reducible repeat (first | apply Kd.R_alloc | apply Kd.R_drewN | apply Kd.R_drew)); exact HO_12.out⟩, ⟨by repeat (first | (with_reducible first | exact HB.out | apply below_alloc | apply pw_below_drewN | apply below_drew1) | exact HB.out)⟩⟩
          · rw [if_neg c11] at H
            have c11b0 : decide (x13_1 < t221) = false := decide_eq_false c11
            clear c11
            obtain rfl := Option.some.inj H
            go_wp2
            go_ret
            exact ⟨_, by first | rfl | (simp [errW_none, errW_some] <;> rfl) | (simp only [← hji6]; first | rfl | (simp [errW_none, errW_some] <;> rfl)) | (simp [*, errW_none, errW_some] <;> rfl), by (with_reducible repeat (first | apply Kd.R_alloc | apply Kd.R_drewN | apply Kd.R_drew)); exact HO_12.out, by repeat (first | (with_reducible first | exact HB.out | apply below_alloc | apply pw_below_drewN | apply below_drew1) | exact HB.out)⟩
    · rw [if_neg c8] at H
      exact absurd H (by simp)
  · rw [if_neg c7] at H
    exact absurd H (by simp)

end Go.Proofs.Ytcpemdedmepfeab.PFnExactScatter
