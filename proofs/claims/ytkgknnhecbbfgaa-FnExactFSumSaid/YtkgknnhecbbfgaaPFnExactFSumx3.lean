-- Printed out of the translation, hand-written contracts beside it; checked by the kernel alone.
import Derived.Test.YtkgknnhecbbfgaaPFnExactFSumx0
import Derived.Test.YtkgknnhecbbfgaaPFnExactFSumx1
import Derived.Test.YtkgknnhecbbfgaaPFnExactFSumx2
namespace Go.Proofs.Ytkgknnhecbbfgaa.PFnExactFSum
open Go.RowKit Go.Proofs.YtkgknnhecbbfgaaW.PrintWords Go.Proofs.YtkgknnhecbbfgaaW.PrintLast Go.Proofs.YtkgknnhecbbfgaaW.PrintMore
attribute [local go_sem] max2_int min2_int max_two min_two max_three min_three max_four min_four   -- for this text's walks alone
set_option linter.unusedVariables false
set_option linter.unusedSimpArgs false

/-! ### spec_FAdd: function 54 -/
mutual
def spec_FAdd.j0 : Nat → Bool → Int → Bool → Int → Int → Int → Bool → Int → Int → Option (Int)
  | 0, _, _, _, _, _, _, _, _, _ => none
  | k + 1, x41, x119000, x119001, x119002, x119003, x124000, x124001, x124002, x124003 => if x41 = true then (some 2143289344) else (if x119000 = 1 then ((spec_l2Infinity.f x119001).bind fun t124 => (some t124)) else (if x124000 = 1 then ((spec_l2Infinity.f x124001).bind fun t125 => (some t125)) else (if x119003 < x124003 then (spec_FAdd.j1 k true x119000 x119001 x119002 x119003 x124000 x124001 x124002 x124003) else (if x119003 = x124003 then (spec_FAdd.j1 k (decide (x119002 < x124002)) x119000 x119001 x119002 x119003 x124000 x124001 x124002 x124003) else (spec_FAdd.j1 k false x119000 x119001 x119002 x119003 x124000 x124001 x124002 x124003)))))
def spec_FAdd.j1 : Nat → Bool → Int → Bool → Int → Int → Int → Bool → Int → Int → Option (Int)
  | 0, _, _, _, _, _, _, _, _, _ => none
  | k + 1, x72, x119000, x119001, x119002, x119003, x124000, x124001, x124002, x124003 => if x72 = true then (spec_FAdd.j2 k x124000 x124001 x124002 x124003 x119000 x119001 x119002 x119003) else (spec_FAdd.j2 k x119000 x119001 x119002 x119003 x124000 x124001 x124002 x124003)
def spec_FAdd.j2 : Nat → Int → Bool → Int → Int → Int → Bool → Int → Int → Option (Int)
  | 0, _, _, _, _, _, _, _, _ => none
  | k + 1, x119000, x119001, x119002, x119003, x124000, x124001, x124002, x124003 => if (wrap64 (x119003 - x124003)) ≤ 30 then (if 0 ≤ (IntKind.u64.wrap (wrap64 (30 - (wrap64 (x119003 - x124003))))) then (spec_FAdd.j4 k (wrap64 (x119002 * 1073741824)) (shl .i64 x124002 (IntKind.u64.wrap (wrap64 (30 - (wrap64 (x119003 - x124003)))))) false x119000 x119001 x119002 x119003 x124000 x124001 x124002 x124003) else (none)) else (spec_FAdd.l0 k (wrap64 (x119002 * 1073741824)) (wrap64 (x119003 - x124003)) x124002 false 30 x119000 x119001 x119002 x119003 x124000 x124001 x124002 x124003)
def spec_FAdd.j4 : Nat → Int → Int → Bool → Int → Bool → Int → Int → Int → Bool → Int → Int → Option (Int)
  | 0, _, _, _, _, _, _, _, _, _, _, _ => none
  | k + 1, x8, x10, x11, x119000, x119001, x119002, x119003, x124000, x124001, x124002, x124003 => if (x119001 == x124001) = true then ((spec_l2Put.f k x119001 (wrap64 (x8 + x10)) (wrap64 (x119003 - 30)) x11).bind fun t127 => (some t127)) else (if x11 = true then (spec_FAdd.j5 k (wrap64 ((wrap64 (x8 - x10)) - 1)) x11 x119000 x119001 x119002 x119003) else (spec_FAdd.j5 k (wrap64 (x8 - x10)) x11 x119000 x119001 x119002 x119003))
def spec_FAdd.j5 : Nat → Int → Bool → Int → Bool → Int → Int → Option (Int)
  | 0, _, _, _, _, _, _ => none
  | k + 1, x8, x11, x119000, x119001, x119002, x119003 => if x8 < 0 then (spec_FAdd.j6 k (wrap64 (-x8)) x11 x119000 (!x119001) x119002 x119003) else (spec_FAdd.j6 k x8 x11 x119000 x119001 x119002 x119003)
def spec_FAdd.j6 : Nat → Int → Bool → Int → Bool → Int → Int → Option (Int)
  | 0, _, _, _, _, _, _ => none
  | k + 1, x8, x11, x119000, x119001, x119002, x119003 => if x8 = 0 then (if x11 = true then ((spec_l2Put.f k x119001 x8 (wrap64 (x119003 - 30)) x11).bind fun t128 => (some t128)) else ((spec_l2Put.f k false x8 (wrap64 (x119003 - 30)) x11).bind fun t129 => (some t129))) else ((spec_l2Put.f k x119001 x8 (wrap64 (x119003 - 30)) x11).bind fun t130 => (some t130))
def spec_FAdd.l0 : Nat → Int → Int → Int → Bool → Int → Int → Bool → Int → Int → Int → Bool → Int → Int → Option (Int)
  | 0, _, _, _, _, _, _, _, _, _, _, _, _, _ => none
  | k + 1, x8, x9, x10, x11, x12, x119000, x119001, x119002, x119003, x124000, x124001, x124002, x124003 => if x12 < x9 then (if x11 = true then (spec_FAdd.l0 k x8 x9 (x10 / 2) true (wrap64 (x12 + 1)) x119000 x119001 x119002 x119003 x124000 x124001 x124002 x124003) else (spec_FAdd.l0 k x8 x9 (x10 / 2) ((Go.bits .and .i64 x10 1) == 1) (wrap64 (x12 + 1)) x119000 x119001 x119002 x119003 x124000 x124001 x124002 x124003)) else (spec_FAdd.j4 k x8 x10 x11 x119000 x119001 x119002 x119003 x124000 x124001 x124002 x124003)
end
def spec_FAdd.f (k : Nat) (a0 : Int) (a1 : Int) : Option (Int) := (spec_l2Open.f k a0).bind fun bt114 => ((spec_l2Open.f k a1).bind fun bt119 => (if bt114.1 = 2 then (spec_FAdd.j0 k true bt114.1 bt114.2.1 bt114.2.2.1 bt114.2.2.2 bt119.1 bt119.2.1 bt119.2.2.1 bt119.2.2.2) else (if bt119.1 = 2 then (spec_FAdd.j0 k true bt114.1 bt114.2.1 bt114.2.2.1 bt114.2.2.2 bt119.1 bt119.2.1 bt119.2.2.1 bt119.2.2.2) else (if bt114.1 = 1 then (if bt119.1 = 1 then (spec_FAdd.j0 k (bt114.2.1 != bt119.2.1) bt114.1 bt114.2.1 bt114.2.2.1 bt114.2.2.2 bt119.1 bt119.2.1 bt119.2.2.1 bt119.2.2.2) else (spec_FAdd.j0 k false bt114.1 bt114.2.1 bt114.2.2.1 bt114.2.2.2 bt119.1 bt119.2.1 bt119.2.2.1 bt119.2.2.2)) else (spec_FAdd.j0 k false bt114.1 bt114.2.1 bt114.2.2.1 bt114.2.2.2 bt119.1 bt119.2.1 bt119.2.2.1 bt119.2.2.2)))))
theorem spec_FAdd.mono_l : ∀ k, (∀ y0 y1 y2 y3 y4 y5 y6 y7 y8, LeO (spec_FAdd.j0 k y0 y1 y2 y3 y4 y5 y6 y7 y8) (spec_FAdd.j0 (k + 1) y0 y1 y2 y3 y4 y5 y6 y7 y8)) ∧ (∀ y0 y1 y2 y3 y4 y5 y6 y7 y8, LeO (spec_FAdd.j1 k y0 y1 y2 y3 y4 y5 y6 y7 y8) (spec_FAdd.j1 (k + 1) y0 y1 y2 y3 y4 y5 y6 y7 y8)) ∧ (∀ y0 y1 y2 y3 y4 y5 y6 y7, LeO (spec_FAdd.j2 k y0 y1 y2 y3 y4 y5 y6 y7) (spec_FAdd.j2 (k + 1) y0 y1 y2 y3 y4 y5 y6 y7)) ∧ (∀ y0 y1 y2 y3 y4 y5 y6 y7 y8 y9 y10, LeO (spec_FAdd.j4 k y0 y1 y2 y3 y4 y5 y6 y7 y8 y9 y10) (spec_FAdd.j4 (k + 1) y0 y1 y2 y3 y4 y5 y6 y7 y8 y9 y10)) ∧ (∀ y0 y1 y2 y3 y4 y5, LeO (spec_FAdd.j5 k y0 y1 y2 y3 y4 y5) (spec_FAdd.j5 (k + 1) y0 y1 y2 y3 y4 y5)) ∧ (∀ y0 y1 y2 y3 y4 y5, LeO (spec_FAdd.j6 k y0 y1 y2 y3 y4 y5) (spec_FAdd.j6 (k + 1) y0 y1 y2 y3 y4 y5)) ∧ (∀ y0 y1 y2 y3 y4 y5 y6 y7 y8 y9 y10 y11 y12, LeO (spec_FAdd.l0 k y0 y1 y2 y3 y4 y5 y6 y7 y8 y9 y10 y11 y12) (spec_FAdd.l0 (k + 1) y0 y1 y2 y3 y4 y5 y6 y7 y8 y9 y10 y11 y12))
  | 0 => ⟨fun _ _ _ _ _ _ _ _ _ r h => by simp [spec_FAdd.j0] at h, fun _ _ _ _ _ _ _ _ _ r h => by simp [spec_FAdd.j1] at h, fun _ _ _ _ _ _ _ _ r h => by simp [spec_FAdd.j2] at h, fun _ _ _ _ _ _ _ _ _ _ _ r h => by simp [spec_FAdd.j4] at h, fun _ _ _ _ _ _ r h => by simp [spec_FAdd.j5] at h, fun _ _ _ _ _ _ r h => by simp [spec_FAdd.j6] at h, fun _ _ _ _ _ _ _ _ _ _ _ _ _ r h => by simp [spec_FAdd.l0] at h⟩
  | k + 1 => by
    obtain ⟨ih0, ih1, ih2, ih3, ih4, ih5, ih6⟩ := spec_FAdd.mono_l k
    refine ⟨?_, ?_, ?_, ?_, ?_, ?_, ?_⟩
    · intro y0 y1 y2 y3 y4 y5 y6 y7 y8
      unfold spec_FAdd.j0
      repeat' first
      | (with_reducible exact ih0 _ _ _ _ _ _ _ _ _)
      | (with_reducible exact ih1 _ _ _ _ _ _ _ _ _)
      | (with_reducible exact ih2 _ _ _ _ _ _ _ _)
      | (with_reducible exact ih3 _ _ _ _ _ _ _ _ _ _ _)
      | (with_reducible exact ih4 _ _ _ _ _ _)
      | (with_reducible exact ih5 _ _ _ _ _ _)
      | (with_reducible exact ih6 _ _ _ _ _ _ _ _ _ _ _ _ _)
      | (with_reducible exact spec_l2Open.mono _ _)
      | (with_reducible exact spec_l2Put.mono _ _ _ _ _)
      | (with_reducible exact LeO.refl _)
      | (with_reducible exact LeO.none _)
      | (with_reducible refine LeO.ite ?_ ?_)
      | (with_reducible refine LeO.bind ?_ (fun _ => ?_))
      | exact ih0 _ _ _ _ _ _ _ _ _
      | exact ih1 _ _ _ _ _ _ _ _ _
      | exact ih2 _ _ _ _ _ _ _ _
      | exact ih3 _ _ _ _ _ _ _ _ _ _ _
      | exact ih4 _ _ _ _ _ _
      | exact ih5 _ _ _ _ _ _
      | exact ih6 _ _ _ _ _ _ _ _ _ _ _ _ _
      | exact spec_l2Open.mono _ _
      | exact spec_l2Put.mono _ _ _ _ _
      | exact LeO.none _
      | refine LeO.ite ?_ ?_
      | refine LeO.bind ?_ (fun _ => ?_)
    · intro y0 y1 y2 y3 y4 y5 y6 y7 y8
      unfold spec_FAdd.j1
      repeat' first
      | (with_reducible exact ih0 _ _ _ _ _ _ _ _ _)
      | (with_reducible exact ih1 _ _ _ _ _ _ _ _ _)
      | (with_reducible exact ih2 _ _ _ _ _ _ _ _)
      | (with_reducible exact ih3 _ _ _ _ _ _ _ _ _ _ _)
      | (with_reducible exact ih4 _ _ _ _ _ _)
      | (with_reducible exact ih5 _ _ _ _ _ _)
      | (with_reducible exact ih6 _ _ _ _ _ _ _ _ _ _ _ _ _)
      | (with_reducible exact spec_l2Open.mono _ _)
      | (with_reducible exact spec_l2Put.mono _ _ _ _ _)
      | (with_reducible exact LeO.refl _)
      | (with_reducible exact LeO.none _)
      | (with_reducible refine LeO.ite ?_ ?_)
      | (with_reducible refine LeO.bind ?_ (fun _ => ?_))
      | exact ih0 _ _ _ _ _ _ _ _ _
      | exact ih1 _ _ _ _ _ _ _ _ _
      | exact ih2 _ _ _ _ _ _ _ _
      | exact ih3 _ _ _ _ _ _ _ _ _ _ _
      | exact ih4 _ _ _ _ _ _
      | exact ih5 _ _ _ _ _ _
      | exact ih6 _ _ _ _ _ _ _ _ _ _ _ _ _
      | exact spec_l2Open.mono _ _
      | exact spec_l2Put.mono _ _ _ _ _
      | exact LeO.none _
      | refine LeO.ite ?_ ?_
      | refine LeO.bind ?_ (fun _ => ?_)
    · intro y0 y1 y2 y3 y4 y5 y6 y7
      unfold spec_FAdd.j2
      repeat' first
      | (with_reducible exact ih0 _ _ _ _ _ _ _ _ _)
      | (with_reducible exact ih1 _ _ _ _ _ _ _ _ _)
      | (with_reducible exact ih2 _ _ _ _ _ _ _ _)
      | (with_reducible exact ih3 _ _ _ _ _ _ _ _ _ _ _)
      | (with_reducible exact ih4 _ _ _ _ _ _)
      | (with_reducible exact ih5 _ _ _ _ _ _)
      | (with_reducible exact ih6 _ _ _ _ _ _ _ _ _ _ _ _ _)
      | (with_reducible exact spec_l2Open.mono _ _)
      | (with_reducible exact spec_l2Put.mono _ _ _ _ _)
      | (with_reducible exact LeO.refl _)
      | (with_reducible exact LeO.none _)
      | (with_reducible refine LeO.ite ?_ ?_)
      | (with_reducible refine LeO.bind ?_ (fun _ => ?_))
      | exact ih0 _ _ _ _ _ _ _ _ _
      | exact ih1 _ _ _ _ _ _ _ _ _
      | exact ih2 _ _ _ _ _ _ _ _
      | exact ih3 _ _ _ _ _ _ _ _ _ _ _
      | exact ih4 _ _ _ _ _ _
      | exact ih5 _ _ _ _ _ _
      | exact ih6 _ _ _ _ _ _ _ _ _ _ _ _ _
      | exact spec_l2Open.mono _ _
      | exact spec_l2Put.mono _ _ _ _ _
      | exact LeO.none _
      | refine LeO.ite ?_ ?_
      | refine LeO.bind ?_ (fun _ => ?_)
    · intro y0 y1 y2 y3 y4 y5 y6 y7 y8 y9 y10
      unfold spec_FAdd.j4
      repeat' first
      | (with_reducible exact ih0 _ _ _ _ _ _ _ _ _)
      | (with_reducible exact ih1 _ _ _ _ _ _ _ _ _)
      | (with_reducible exact ih2 _ _ _ _ _ _ _ _)
      | (with_reducible exact ih3 _ _ _ _ _ _ _ _ _ _ _)
      | (with_reducible exact ih4 _ _ _ _ _ _)
      | (with_reducible exact ih5 _ _ _ _ _ _)
      | (with_reducible exact ih6 _ _ _ _ _ _ _ _ _ _ _ _ _)
      | (with_reducible exact spec_l2Open.mono _ _)
      | (with_reducible exact spec_l2Put.mono _ _ _ _ _)
      | (with_reducible exact LeO.refl _)
      | (with_reducible exact LeO.none _)
      | (with_reducible refine LeO.ite ?_ ?_)
      | (with_reducible refine LeO.bind ?_ (fun _ => ?_))
      | exact ih0 _ _ _ _ _ _ _ _ _
      | exact ih1 _ _ _ _ _ _ _ _ _
      | exact ih2 _ _ _ _ _ _ _ _
      | exact ih3 _ _ _ _ _ _ _ _ _ _ _
      | exact ih4 _ _ _ _ _ _
      | exact ih5 _ _ _ _ _ _
      | exact ih6 _ _ _ _ _ _ _ _ _ _ _ _ _
      | exact spec_l2Open.mono _ _
      | exact spec_l2Put.mono _ _ _ _ _
      | exact LeO.none _
      | refine LeO.ite ?_ ?_
      | refine LeO.bind ?_ (fun _ => ?_)
    · intro y0 y1 y2 y3 y4 y5
      unfold spec_FAdd.j5
      repeat' first
      | (with_reducible exact ih0 _ _ _ _ _ _ _ _ _)
      | (with_reducible exact ih1 _ _ _ _ _ _ _ _ _)
      | (with_reducible exact ih2 _ _ _ _ _ _ _ _)
      | (with_reducible exact ih3 _ _ _ _ _ _ _ _ _ _ _)
      | (with_reducible exact ih4 _ _ _ _ _ _)
      | (with_reducible exact ih5 _ _ _ _ _ _)
      | (with_reducible exact ih6 _ _ _ _ _ _ _ _ _ _ _ _ _)
      | (with_reducible exact spec_l2Open.mono _ _)
      | (with_reducible exact spec_l2Put.mono _ _ _ _ _)
      | (with_reducible exact LeO.refl _)
      | (with_reducible exact LeO.none _)
      | (with_reducible refine LeO.ite ?_ ?_)
      | (with_reducible refine LeO.bind ?_ (fun _ => ?_))
      | exact ih0 _ _ _ _ _ _ _ _ _
      | exact ih1 _ _ _ _ _ _ _ _ _
      | exact ih2 _ _ _ _ _ _ _ _
      | exact ih3 _ _ _ _ _ _ _ _ _ _ _
      | exact ih4 _ _ _ _ _ _
      | exact ih5 _ _ _ _ _ _
      | exact ih6 _ _ _ _ _ _ _ _ _ _ _ _ _
      | exact spec_l2Open.mono _ _
      | exact spec_l2Put.mono _ _ _ _ _
      | exact LeO.none _
      | refine LeO.ite ?_ ?_
      | refine LeO.bind ?_ (fun _ => ?_)
    · intro y0 y1 y2 y3 y4 y5
      unfold spec_FAdd.j6
      repeat' first
      | (with_reducible exact ih0 _ _ _ _ _ _ _ _ _)
      | (with_reducible exact ih1 _ _ _ _ _ _ _ _ _)
      | (with_reducible exact ih2 _ _ _ _ _ _ _ _)
      | (with_reducible exact ih3 _ _ _ _ _ _ _ _ _ _ _)
      | (with_reducible exact ih4 _ _ _ _ _ _)
      | (with_reducible exact ih5 _ _ _ _ _ _)
      | (with_reducible exact ih6 _ _ _ _ _ _ _ _ _ _ _ _ _)
      | (with_reducible exact spec_l2Open.mono _ _)
      | (with_reducible exact spec_l2Put.mono _ _ _ _ _)
      | (with_reducible exact LeO.refl _)
      | (with_reducible exact LeO.none _)
      | (with_reducible refine LeO.ite ?_ ?_)
      | (with_reducible refine LeO.bind ?_ (fun _ => ?_))
      | exact ih0 _ _ _ _ _ _ _ _ _
      | exact ih1 _ _ _ _ _ _ _ _ _
      | exact ih2 _ _ _ _ _ _ _ _
      | exact ih3 _ _ _ _ _ _ _ _ _ _ _
      | exact ih4 _ _ _ _ _ _
      | exact ih5 _ _ _ _ _ _
      | exact ih6 _ _ _ _ _ _ _ _ _ _ _ _ _
      | exact spec_l2Open.mono _ _
      | exact spec_l2Put.mono _ _ _ _ _
      | exact LeO.none _
      | refine LeO.ite ?_ ?_
      | refine LeO.bind ?_ (fun _ => ?_)
    · intro y0 y1 y2 y3 y4 y5 y6 y7 y8 y9 y10 y11 y12
      unfold spec_FAdd.l0
      repeat' first
      | (with_reducible exact ih0 _ _ _ _ _ _ _ _ _)
      | (with_reducible exact ih1 _ _ _ _ _ _ _ _ _)
      | (with_reducible exact ih2 _ _ _ _ _ _ _ _)
      | (with_reducible exact ih3 _ _ _ _ _ _ _ _ _ _ _)
      | (with_reducible exact ih4 _ _ _ _ _ _)
      | (with_reducible exact ih5 _ _ _ _ _ _)
      | (with_reducible exact ih6 _ _ _ _ _ _ _ _ _ _ _ _ _)
      | (with_reducible exact spec_l2Open.mono _ _)
      | (with_reducible exact spec_l2Put.mono _ _ _ _ _)
      | (with_reducible exact LeO.refl _)
      | (with_reducible exact LeO.none _)
      | (with_reducible refine LeO.ite ?_ ?_)
      | (with_reducible refine LeO.bind ?_ (fun _ => ?_))
      | exact ih0 _ _ _ _ _ _ _ _ _
      | exact ih1 _ _ _ _ _ _ _ _ _
      | exact ih2 _ _ _ _ _ _ _ _
      | exact ih3 _ _ _ _ _ _ _ _ _ _ _
      | exact ih4 _ _ _ _ _ _
      | exact ih5 _ _ _ _ _ _
      | exact ih6 _ _ _ _ _ _ _ _ _ _ _ _ _
      | exact spec_l2Open.mono _ _
      | exact spec_l2Put.mono _ _ _ _ _
      | exact LeO.none _
      | refine LeO.ite ?_ ?_
      | refine LeO.bind ?_ (fun _ => ?_)
theorem spec_FAdd.mono : ∀ a0 a1 k, LeO (spec_FAdd.f k a0 a1) (spec_FAdd.f (k + 1) a0 a1) := by
  intro a0 a1 k
  obtain ⟨ih0, ih1, ih2, ih3, ih4, ih5, ih6⟩ := spec_FAdd.mono_l k
  unfold spec_FAdd.f
  repeat' first
      | (with_reducible exact ih0 _ _ _ _ _ _ _ _ _)
      | (with_reducible exact ih1 _ _ _ _ _ _ _ _ _)
      | (with_reducible exact ih2 _ _ _ _ _ _ _ _)
      | (with_reducible exact ih3 _ _ _ _ _ _ _ _ _ _ _)
      | (with_reducible exact ih4 _ _ _ _ _ _)
      | (with_reducible exact ih5 _ _ _ _ _ _)
      | (with_reducible exact ih6 _ _ _ _ _ _ _ _ _ _ _ _ _)
      | (with_reducible exact spec_l2Open.mono _ _)
      | (with_reducible exact spec_l2Put.mono _ _ _ _ _)
      | (with_reducible exact LeO.refl _)
      | (with_reducible exact LeO.none _)
      | (with_reducible refine LeO.ite ?_ ?_)
      | (with_reducible refine LeO.bind ?_ (fun _ => ?_))
      | exact ih0 _ _ _ _ _ _ _ _ _
      | exact ih1 _ _ _ _ _ _ _ _ _
      | exact ih2 _ _ _ _ _ _ _ _
      | exact ih3 _ _ _ _ _ _ _ _ _ _ _
      | exact ih4 _ _ _ _ _ _
      | exact ih5 _ _ _ _ _ _
      | exact ih6 _ _ _ _ _ _ _ _ _ _ _ _ _
      | exact spec_l2Open.mono _ _
      | exact spec_l2Put.mono _ _ _ _ _
      | exact LeO.none _
      | refine LeO.ite ?_ ?_
      | refine LeO.bind ?_ (fun _ => ?_)
set_option maxHeartbeats 8000000 in
set_option maxRecDepth 100000 in
theorem spec_FAdd.calls (k : Nat) (a0 : Int) (a1 : Int) (r : Int) (w : World) (h : spec_FAdd.f k a0 a1 = some r) :
    Calls Try.prog 54 #[.int .i64 a0, .int .i64 a1] w fun e w' => e = .returned (.int .i64 r) ∧ Below w.heap.size w w' := by
  have hu95 := Try.underlying95
  have HB := Aside0.mk (Below.refl w.heap.size w)
  have H : ((spec_l2Open.f k a0).bind fun bt114 => ((spec_l2Open.f k a1).bind fun bt119 => (if bt114.1 = 2 then (spec_FAdd.j0 k true bt114.1 bt114.2.1 bt114.2.2.1 bt114.2.2.2 bt119.1 bt119.2.1 bt119.2.2.1 bt119.2.2.2) else (if bt119.1 = 2 then (spec_FAdd.j0 k true bt114.1 bt114.2.1 bt114.2.2.1 bt114.2.2.2 bt119.1 bt119.2.1 bt119.2.2.1 bt119.2.2.2) else (if bt114.1 = 1 then (if bt119.1 = 1 then (spec_FAdd.j0 k (bt114.2.1 != bt119.2.1) bt114.1 bt114.2.1 bt114.2.2.1 bt114.2.2.2 bt119.1 bt119.2.1 bt119.2.2.1 bt119.2.2.2) else (spec_FAdd.j0 k false bt114.1 bt114.2.1 bt114.2.2.1 bt114.2.2.2 bt119.1 bt119.2.1 bt119.2.2.1 bt119.2.2.2)) else (spec_FAdd.j0 k false bt114.1 bt114.2.1 bt114.2.2.1 bt114.2.2.2 bt119.1 bt119.2.1 bt119.2.2.1 bt119.2.2.2)))))) = some r := h
  clear h
  replace H := Option.bind_eq_some_iff.mp H
  obtain ⟨⟨t114, t115, t116, t117⟩, A30, H⟩ := H
  replace H : ((spec_l2Open.f k a1).bind fun bt119 => (if t114 = 2 then (spec_FAdd.j0 k true t114 t115 t116 t117 bt119.1 bt119.2.1 bt119.2.2.1 bt119.2.2.2) else (if bt119.1 = 2 then (spec_FAdd.j0 k true t114 t115 t116 t117 bt119.1 bt119.2.1 bt119.2.2.1 bt119.2.2.2) else (if t114 = 1 then (if bt119.1 = 1 then (spec_FAdd.j0 k (t115 != bt119.2.1) t114 t115 t116 t117 bt119.1 bt119.2.1 bt119.2.2.1 bt119.2.2.2) else (spec_FAdd.j0 k false t114 t115 t116 t117 bt119.1 bt119.2.1 bt119.2.2.1 bt119.2.2.2)) else (spec_FAdd.j0 k false t114 t115 t116 t117 bt119.1 bt119.2.1 bt119.2.2.1 bt119.2.2.2))))) = some r := H
  have A3 := Aside0.mk A30
  clear A30
  replace H := Option.bind_eq_some_iff.mp H
  obtain ⟨⟨t119, t120, t121, t122⟩, A40, H⟩ := H
  replace H : (if t114 = 2 then (spec_FAdd.j0 k true t114 t115 t116 t117 t119 t120 t121 t122) else (if t119 = 2 then (spec_FAdd.j0 k true t114 t115 t116 t117 t119 t120 t121 t122) else (if t114 = 1 then (if t119 = 1 then (spec_FAdd.j0 k (t115 != t120) t114 t115 t116 t117 t119 t120 t121 t122) else (spec_FAdd.j0 k false t114 t115 t116 t117 t119 t120 t121 t122)) else (spec_FAdd.j0 k false t114 t115 t116 t117 t119 t120 t121 t122)))) = some r := H
  have A4 := Aside0.mk A40
  clear A40
  have HC5 := Aside0.mk H
  clear H
  go_enter Try.func54, Try.ntmps54
  go_upto_region 3 with (first | ((with_reducible refine gate_callee (f := 78) rfl ?_); refine goesL_ (some 14) rfl rfl Try.func78 (by kernel_rfl) rfl #[.int .i64 a0] rfl (by (try simp only [List.map_toArray, List.map_cons, List.map_nil]); first | done | rfl | (simp only [List.length_drop, List.length_take]; rfl)) ?_; (with_reducible refine (spec_l2Open.calls k a0 t114 t115 t116 t117 _ A3.out).mono ?_); rintro e w6 ⟨rfl, hb⟩; refine ⟨_, rfl, ?_⟩; have n0_ := Aside0.mk (below_step (by repeat (first | (with_reducible first | exact HB.out | apply below_alloc | apply pw_below_drewN | apply below_drew1) | exact HB.out)) hb); clear HB; have HB := n0_; clear n0_; (try clear hb); (try clear hb2); (try clear hk); (try clear hi)) | ((with_reducible refine gate_dst (N := 5) rfl ?_); refine box_event ?hg (N := 5) ?hd (cs := #[.int .i64 0, .bool false, .int .i64 0, .int .i64 0]) (t := 95) ?hr ?_; (case hd => rfl); (case hg => rfl); (case hr => first | (go_simp; done) | (go_simp; rfl)); intro gb118 hg w7 hbox hb; have n0_ := Aside0.mk (below_step (by repeat (first | (with_reducible first | exact HB.out | apply below_alloc | apply pw_below_drewN | apply below_drew1) | exact HB.out)) hb); have n1_ := Aside0.mk (hbox); have n2_ := Aside0.mk ((by rw [hg]; exact (below_size (by repeat (first | (with_reducible first | exact HB.out | apply below_alloc | apply pw_below_drewN | apply below_drew1) | exact HB.out))) : w.heap.size ≤ gb118)); have n3_ := Aside0.mk ((by rw [hg]; exact (below_size (by repeat (first | (with_reducible first | exact HB.out | apply below_alloc | apply pw_below_drewN | apply below_drew1) | exact HB.out))) : w.heap.size ≤ gb118)); clear HB; have HB := n0_; have BK118 := n1_; have GW118 := n2_; have GE118 := n3_; clear n0_ n1_ n2_ n3_; clear hb hbox hg; have hcz8_0 : w7.cell? ⟨gb118, 0, none⟩ = some (.int .i64 0) := (blk_cell BK118.out 0).trans rfl; have hcz8_1 : w7.cell? ⟨gb118, 1, none⟩ = some (.bool false) := (blk_cell BK118.out 1).trans rfl; have hcz8_2 : w7.cell? ⟨gb118, 2, none⟩ = some (.int .i64 0) := (blk_cell BK118.out 2).trans rfl; have hcz8_3 : w7.cell? ⟨gb118, 3, none⟩ = some (.int .i64 0) := (blk_cell BK118.out 3).trans rfl; have hfz8_0 := blk_frozen BK118.out 0; have hfz8_1 := blk_frozen BK118.out 1; have hfz8_2 := blk_frozen BK118.out 2; have hfz8_3 := blk_frozen BK118.out 3) | ((with_reducible refine gate_callee (f := 78) rfl ?_); refine goesL_ (some 16) rfl rfl Try.func78 (by kernel_rfl) rfl #[.int .i64 a1] rfl (by (try simp only [List.map_toArray, List.map_cons, List.map_nil]); first | done | rfl | (simp only [List.length_drop, List.length_take]; rfl)) ?_; (with_reducible refine (spec_l2Open.calls k a1 t119 t120 t121 t122 _ A4.out).mono ?_); rintro e w9 ⟨rfl, hb⟩; refine ⟨_, rfl, ?_⟩; have n0_ := Aside0.mk (blk_below (g := gb118) (o := .cells #[.int .i64 t114, .bool t115, .int .i64 t116, .int .i64 t117] 95 (0, 0)) (by (with_reducible repeat (first | refine blk_drewN ?_ _ | refine blk_drew ?_ | refine blk_alloc ?_ _)); refine blk_put (cs := #[.int .i64 t114, .bool t115, .int .i64 t116, .int .i64 0]) ?_ 3 _ rfl; (with_reducible repeat (first | refine blk_drewN ?_ _ | refine blk_drew ?_ | refine blk_alloc ?_ _)); refine blk_put (cs := #[.int .i64 t114, .bool t115, .int .i64 0, .int .i64 0]) ?_ 2 _ rfl; (with_reducible repeat (first | refine blk_drewN ?_ _ | refine blk_drew ?_ | refine blk_alloc ?_ _)); refine blk_put (cs := #[.int .i64 t114, .bool false, .int .i64 0, .int .i64 0]) ?_ 1 _ rfl; (with_reducible repeat (first | refine blk_drewN ?_ _ | refine blk_drew ?_ | refine blk_alloc ?_ _)); refine blk_put (cs := #[.int .i64 0, .bool false, .int .i64 0, .int .i64 0]) ?_ 0 _ rfl; (with_reducible repeat (first | refine blk_drewN ?_ _ | refine blk_drew ?_ | refine blk_alloc ?_ _)); exact BK118.out) hb); have n1_ := Aside0.mk (below_step (by repeat (first | (with_reducible first | exact HB.out | apply below_alloc | apply pw_below_drewN | apply below_drew1 | refine below_set ?_ GE118.out) | exact HB.out)) hb); clear BK118; clear HB; have BK118 := n0_; have HB := n1_; clear n0_ n1_; (try clear hb); (try clear hb2); (try clear hk); (try clear hi)) | ((with_reducible refine gate_dst (N := 6) rfl ?_); refine box_event ?hg (N := 6) ?hd (cs := #[.int .i64 0, .bool false, .int .i64 0, .int .i64 0]) (t := 95) ?hr ?_; (case hd => rfl); (case hg => rfl); (case hr => first | (go_simp; done) | (go_simp; rfl)); intro gb123 hg w10 hbox hb; have n0_ := Aside0.mk (blk_below (g := gb118) (o := .cells #[.int .i64 t114, .bool t115, .int .i64 t116, .int .i64 t117] 95 (0, 0)) (by (with_reducible repeat (first | refine blk_drewN ?_ _ | refine blk_drew ?_ | refine blk_alloc ?_ _)); exact BK118.out) hb); have n1_ := Aside0.mk (below_step (by repeat (first | (with_reducible first | exact HB.out | apply below_alloc | apply pw_below_drewN | apply below_drew1 | refine below_set ?_ GE118.out) | exact HB.out)) hb); have n2_ := Aside0.mk (hbox); have n3_ := Aside0.mk ((by rw [hg]; exact (below_size (by repeat (first | (with_reducible first | exact HB.out | apply below_alloc | apply pw_below_drewN | apply below_drew1 | refine below_set ?_ GE118.out) | exact HB.out))) : w.heap.size ≤ gb123)); have n4_ := Aside0.mk ((by rw [hg]; exact (below_size (by repeat (first | (with_reducible first | exact HB.out | apply below_alloc | apply pw_below_drewN | apply below_drew1 | refine below_set ?_ GE118.out) | exact HB.out))) : w.heap.size ≤ gb123)); have n5_ := Aside0.mk ((by rw [hg]; exact Nat.ne_of_lt (blk_lt (g := gb118) (o := .cells #[.int .i64 t114, .bool t115, .int .i64 t116, .int .i64 t117] 95 (0, 0)) (by (with_reducible repeat (first | refine blk_drewN ?_ _ | refine blk_drew ?_ | refine blk_alloc ?_ _)); exact BK118.out)) : gb118 ≠ gb123)); have n6_ := Aside0.mk ((by rw [hg]; exact Nat.ne_of_gt (blk_lt (g := gb118) (o := .cells #[.int .i64 t114, .bool t115, .int .i64 t116, .int .i64 t117] 95 (0, 0)) (by (with_reducible repeat (first | refine blk_drewN ?_ _ | refine blk_drew ?_ | refine blk_alloc ?_ _)); exact BK118.out)) : gb123 ≠ gb118)); clear BK118; clear HB; have BK118 := n0_; have HB := n1_; have BK123 := n2_; have GW123 := n3_; have GE123 := n4_; have NB118_123 := n5_; have NB123_118 := n6_; clear n0_ n1_ n2_ n3_ n4_ n5_ n6_; clear hb hbox hg; have hnb11 := NB123_118.out; have hnc11 := NB118_123.out; have hcz12_0 : w10.cell? ⟨gb123, 0, none⟩ = some (.int .i64 0) := (blk_cell BK123.out 0).trans rfl; have hcz12_1 : w10.cell? ⟨gb123, 1, none⟩ = some (.bool false) := (blk_cell BK123.out 1).trans rfl; have hcz12_2 : w10.cell? ⟨gb123, 2, none⟩ = some (.int .i64 0) := (blk_cell BK123.out 2).trans rfl; have hcz12_3 : w10.cell? ⟨gb123, 3, none⟩ = some (.int .i64 0) := (blk_cell BK123.out 3).trans rfl; have hfz12_0 := blk_frozen BK123.out 0; have hfz12_1 := blk_frozen BK123.out 1; have hfz12_2 := blk_frozen BK123.out 2; have hfz12_3 := blk_frozen BK123.out 3))
  (try simp only [Act.put, List.setIfInBounds_toArray, List.set_cons_zero, List.set_cons_succ])
  go_cut [41] (fun v41 wc => ∃ (kq : Nat) (x41_4 : Bool), v41 = .bool x41_4 ∧ Aside0 (spec_FAdd.j0 kq x41_4 t114 t115 t116 t117 t119 t120 t121 t122 = some r) ∧ Aside0 (kq ≤ k) ∧ Aside0 (wc.heap[gb118]? = some (.cells #[.int .i64 t114, .bool t115, .int .i64 t116, .int .i64 t117] 95 (0, 0))) ∧ Aside0 (wc.heap[gb123]? = some (.cells #[.int .i64 t119, .bool t120, .int .i64 t121, .int .i64 t122] 95 (0, 0))) ∧ Aside0 (Below w.heap.size w wc))
  case first =>
    have H := HC5.out
    clear HC5
    by_cases c13 : t114 = 2
    · rw [if_pos c13] at H
      have c13b0 : (t114 == 2) = true := beq_iff_eq.mpr c13
      have c13b1 : (t114 != 2) = false := bne_eq_false_iff_eq.mpr c13
      clear c13
      (first | rw [c13b0] | (simp only [i64_w, i32_w]; rw [c13b0]) | skip)
      have H' := Aside0.mk H
      clear H
      have hnb14 := NB118_123.out
      have hnc14 := NB123_118.out
      have hcz15_0 : w10.cell? ⟨gb118, 0, none⟩ = some (.int .i64 t114) := (blk_cell BK118.out 0).trans rfl
      have hcz15_1 : w10.cell? ⟨gb118, 1, none⟩ = some (.bool t115) := (blk_cell BK118.out 1).trans rfl
      have hcz15_2 : w10.cell? ⟨gb118, 2, none⟩ = some (.int .i64 t116) := (blk_cell BK118.out 2).trans rfl
      have hcz15_3 : w10.cell? ⟨gb118, 3, none⟩ = some (.int .i64 t117) := (blk_cell BK118.out 3).trans rfl
      have hfz15_0 := blk_frozen BK118.out 0
      have hfz15_1 := blk_frozen BK118.out 1
      have hfz15_2 := blk_frozen BK118.out 2
      have hfz15_3 := blk_frozen BK118.out 3
      go_wp2
      go_meet
      case rel => exact ⟨_, (true), (by first | rfl | (simp; done) | (simp [*]; done)), H', ⟨by first | omega | exact Nat.le_refl _⟩, ⟨by (with_reducible repeat (first | refine blk_drewN ?_ _ | refine blk_drew ?_ | refine blk_alloc ?_ _)); refine blk_far ?_ NB118_123.out _; (with_reducible repeat (first | refine blk_drewN ?_ _ | refine blk_drew ?_ | refine blk_alloc ?_ _)); refine blk_far ?_ NB118_123.out _; (with_reducible repeat (first | refine blk_drewN ?_ _ | refine blk_drew ?_ | refine blk_alloc ?_ _)); refine blk_far ?_ NB118_123.out _; (with_reducible repeat (first | refine blk_drewN ?_ _ | refine blk_drew ?_ | refine blk_alloc ?_ _)); refine blk_far ?_ NB118_123.out _; (with_reducible repeat (first | refine blk_drewN ?_ _ | refine blk_drew ?_ | refine blk_alloc ?_ _)); exact BK118.out⟩, ⟨by (with_reducible repeat (first | refine blk_drewN ?_ _ | refine blk_drew ?_ | refine blk_alloc ?_ _)); refine blk_put (cs := #[.int .i64 t119, .bool t120, .int .i64 t121, .int .i64 0]) ?_ 3 _ rfl; (with_reducible repeat (first | refine blk_drewN ?_ _ | refine blk_drew ?_ | refine blk_alloc ?_ _)); refine blk_put (cs := #[.int .i64 t119, .bool t120, .int .i64 0, .int .i64 0]) ?_ 2 _ rfl; (with_reducible repeat (first | refine blk_drewN ?_ _ | refine blk_drew ?_ | refine blk_alloc ?_ _)); refine blk_put (cs := #[.int .i64 t119, .bool false, .int .i64 0, .int .i64 0]) ?_ 1 _ rfl; (with_reducible repeat (first | refine blk_drewN ?_ _ | refine blk_drew ?_ | refine blk_alloc ?_ _)); refine blk_put (cs := #[.int .i64 0, .bool false, .int .i64 0, .int .i64 0]) ?_ 0 _ rfl; (with_reducible repeat (first | refine blk_drewN ?_ _ | refine blk_drew ?_ | refine blk_alloc ?_ _)); exact BK123.out⟩, ⟨by repeat (first | (with_reducible first | exact HB.out | apply below_alloc | apply pw_below_drewN | apply below_drew1 | refine below_set ?_ GE118.out | refine below_set ?_ GE123.out) | exact HB.out)⟩⟩
    · rw [if_neg c13] at H
      have c13b0 : (t114 == 2) = false := beq_eq_false_iff_ne.mpr c13
      have c13b1 : (t114 != 2) = true := bne_iff_ne.mpr c13
      (first | rw [c13b0] | (simp only [i64_w, i32_w]; rw [c13b0]) | skip)
      by_cases c16 : t119 = 2
      · rw [if_pos c16] at H
        have c16b0 : (t119 == 2) = true := beq_iff_eq.mpr c16
        have c16b1 : (t119 != 2) = false := bne_eq_false_iff_eq.mpr c16
        clear c16
        have H' := Aside0.mk H
        clear H
        have hnb17 := NB118_123.out
        have hnc17 := NB123_118.out
        have hcz18_0 : w10.cell? ⟨gb118, 0, none⟩ = some (.int .i64 t114) := (blk_cell BK118.out 0).trans rfl
        have hcz18_1 : w10.cell? ⟨gb118, 1, none⟩ = some (.bool t115) := (blk_cell BK118.out 1).trans rfl
        have hcz18_2 : w10.cell? ⟨gb118, 2, none⟩ = some (.int .i64 t116) := (blk_cell BK118.out 2).trans rfl
        have hcz18_3 : w10.cell? ⟨gb118, 3, none⟩ = some (.int .i64 t117) := (blk_cell BK118.out 3).trans rfl
        have hfz18_0 := blk_frozen BK118.out 0
        have hfz18_1 := blk_frozen BK118.out 1
        have hfz18_2 := blk_frozen BK118.out 2
        have hfz18_3 := blk_frozen BK118.out 3
        have hcz19_0 : w10.cell? ⟨gb123, 0, none⟩ = some (.int .i64 0) := (blk_cell BK123.out 0).trans rfl
        have hcz19_1 : w10.cell? ⟨gb123, 1, none⟩ = some (.bool false) := (blk_cell BK123.out 1).trans rfl
        have hcz19_2 : w10.cell? ⟨gb123, 2, none⟩ = some (.int .i64 0) := (blk_cell BK123.out 2).trans rfl
        have hcz19_3 : w10.cell? ⟨gb123, 3, none⟩ = some (.int .i64 0) := (blk_cell BK123.out 3).trans rfl
        have hfz19_0 := blk_frozen BK123.out 0
        have hfz19_1 := blk_frozen BK123.out 1
        have hfz19_2 := blk_frozen BK123.out 2
        have hfz19_3 := blk_frozen BK123.out 3
        go_wp2
        go_meet
        case rel => exact ⟨_, (true), (by first | rfl | (simp; done) | (simp [*]; done)), H', ⟨by first | omega | exact Nat.le_refl _⟩, ⟨by (with_reducible repeat (first | refine blk_drewN ?_ _ | refine blk_drew ?_ | refine blk_alloc ?_ _)); refine blk_far ?_ NB118_123.out _; (with_reducible repeat (first | refine blk_drewN ?_ _ | refine blk_drew ?_ | refine blk_alloc ?_ _)); refine blk_far ?_ NB118_123.out _; (with_reducible repeat (first | refine blk_drewN ?_ _ | refine blk_drew ?_ | refine blk_alloc ?_ _)); refine blk_far ?_ NB118_123.out _; (with_reducible repeat (first | refine blk_drewN ?_ _ | refine blk_drew ?_ | refine blk_alloc ?_ _)); refine blk_far ?_ NB118_123.out _; (with_reducible repeat (first | refine blk_drewN ?_ _ | refine blk_drew ?_ | refine blk_alloc ?_ _)); exact BK118.out⟩, ⟨by (with_reducible repeat (first | refine blk_drewN ?_ _ | refine blk_drew ?_ | refine blk_alloc ?_ _)); refine blk_put (cs := #[.int .i64 t119, .bool t120, .int .i64 t121, .int .i64 0]) ?_ 3 _ rfl; (with_reducible repeat (first | refine blk_drewN ?_ _ | refine blk_drew ?_ | refine blk_alloc ?_ _)); refine blk_put (cs := #[.int .i64 t119, .bool t120, .int .i64 0, .int .i64 0]) ?_ 2 _ rfl; (with_reducible repeat (first | refine blk_drewN ?_ _ | refine blk_drew ?_ | refine blk_alloc ?_ _)); refine blk_put (cs := #[.int .i64 t119, .bool false, .int .i64 0, .int .i64 0]) ?_ 1 _ rfl; (with_reducible repeat (first | refine blk_drewN ?_ _ | refine blk_drew ?_ | refine blk_alloc ?_ _)); refine blk_put (cs := #[.int .i64 0, .bool false, .int .i64 0, .int .i64 0]) ?_ 0 _ rfl; (with_reducible repeat (first | refine blk_drewN ?_ _ | refine blk_drew ?_ | refine blk_alloc ?_ _)); exact BK123.out⟩, ⟨by repeat (first | (with_reducible first | exact HB.out | apply below_alloc | apply pw_below_drewN | apply below_drew1 | refine below_set ?_ GE118.out | refine below_set ?_ GE123.out) | exact HB.out)⟩⟩
      · rw [if_neg c16] at H
        have c16b0 : (t119 == 2) = false := beq_eq_false_iff_ne.mpr c16
        have c16b1 : (t119 != 2) = true := bne_iff_ne.mpr c16
        by_cases c20 : t114 = 1
        · rw [if_pos c20] at H
          have c20b0 : (t114 == 1) = true := beq_iff_eq.mpr c20
          have c20b1 : (t114 != 1) = false := bne_eq_false_iff_eq.mpr c20
          clear c20
          by_cases c21 : t119 = 1
          · rw [if_pos c21] at H
            have c21b0 : (t119 == 1) = true := beq_iff_eq.mpr c21
            have c21b1 : (t119 != 1) = false := bne_eq_false_iff_eq.mpr c21
            clear c21
            have H' := Aside0.mk H
            clear H
            have hnb22 := NB118_123.out
            have hnc22 := NB123_118.out
            have hcz23_0 : w10.cell? ⟨gb118, 0, none⟩ = some (.int .i64 t114) := (blk_cell BK118.out 0).trans rfl
            have hcz23_1 : w10.cell? ⟨gb118, 1, none⟩ = some (.bool t115) := (blk_cell BK118.out 1).trans rfl
            have hcz23_2 : w10.cell? ⟨gb118, 2, none⟩ = some (.int .i64 t116) := (blk_cell BK118.out 2).trans rfl
            have hcz23_3 : w10.cell? ⟨gb118, 3, none⟩ = some (.int .i64 t117) := (blk_cell BK118.out 3).trans rfl
            have hfz23_0 := blk_frozen BK118.out 0
            have hfz23_1 := blk_frozen BK118.out 1
            have hfz23_2 := blk_frozen BK118.out 2
            have hfz23_3 := blk_frozen BK118.out 3
            have hcz24_0 : w10.cell? ⟨gb123, 0, none⟩ = some (.int .i64 0) := (blk_cell BK123.out 0).trans rfl
            have hcz24_1 : w10.cell? ⟨gb123, 1, none⟩ = some (.bool false) := (blk_cell BK123.out 1).trans rfl
            have hcz24_2 : w10.cell? ⟨gb123, 2, none⟩ = some (.int .i64 0) := (blk_cell BK123.out 2).trans rfl
            have hcz24_3 : w10.cell? ⟨gb123, 3, none⟩ = some (.int .i64 0) := (blk_cell BK123.out 3).trans rfl
            have hfz24_0 := blk_frozen BK123.out 0
            have hfz24_1 := blk_frozen BK123.out 1
            have hfz24_2 := blk_frozen BK123.out 2
            have hfz24_3 := blk_frozen BK123.out 3
            go_wp2
            go_meet
            case rel => exact ⟨_, ((t115 != t120)), (by first | rfl | (simp; done) | (simp [*]; done)), H', ⟨by first | omega | exact Nat.le_refl _⟩, ⟨by (with_reducible repeat (first | refine blk_drewN ?_ _ | refine blk_drew ?_ | refine blk_alloc ?_ _)); refine blk_far ?_ NB118_123.out _; (with_reducible repeat (first | refine blk_drewN ?_ _ | refine blk_drew ?_ | refine blk_alloc ?_ _)); refine blk_far ?_ NB118_123.out _; (with_reducible repeat (first | refine blk_drewN ?_ _ | refine blk_drew ?_ | refine blk_alloc ?_ _)); refine blk_far ?_ NB118_123.out _; (with_reducible repeat (first | refine blk_drewN ?_ _ | refine blk_drew ?_ | refine blk_alloc ?_ _)); refine blk_far ?_ NB118_123.out _; (with_reducible repeat (first | refine blk_drewN ?_ _ | refine blk_drew ?_ | refine blk_alloc ?_ _)); exact BK118.out⟩, ⟨by (with_reducible repeat (first | refine blk_drewN ?_ _ | refine blk_drew ?_ | refine blk_alloc ?_ _)); refine blk_put (cs := #[.int .i64 t119, .bool t120, .int .i64 t121, .int .i64 0]) ?_ 3 _ rfl; (with_reducible repeat (first | refine blk_drewN ?_ _ | refine blk_drew ?_ | refine blk_alloc ?_ _)); refine blk_put (cs := #[.int .i64 t119, .bool t120, .int .i64 0, .int .i64 0]) ?_ 2 _ rfl; (with_reducible repeat (first | refine blk_drewN ?_ _ | refine blk_drew ?_ | refine blk_alloc ?_ _)); refine blk_put (cs := #[.int .i64 t119, .bool false, .int .i64 0, .int .i64 0]) ?_ 1 _ rfl; (with_reducible repeat (first | refine blk_drewN ?_ _ | refine blk_drew ?_ | refine blk_alloc ?_ _)); refine blk_put (cs := #[.int .i64 0, .bool false, .int .i64 0, .int .i64 0]) ?_ 0 _ rfl; (with_reducible repeat (first | refine blk_drewN ?_ _ | refine blk_drew ?_ | refine blk_alloc ?_ _)); exact BK123.out⟩, ⟨by repeat (first | (with_reducible first | exact HB.out | apply below_alloc | apply pw_below_drewN | apply below_drew1 | refine below_set ?_ GE118.out | refine below_set ?_ GE123.out) | exact HB.out)⟩⟩
          · rw [if_neg c21] at H
            have c21b0 : (t119 == 1) = false := beq_eq_false_iff_ne.mpr c21
            have c21b1 : (t119 != 1) = true := bne_iff_ne.mpr c21
            have H' := Aside0.mk H
            clear H
            have hnb25 := NB118_123.out
            have hnc25 := NB123_118.out
            have hcz26_0 : w10.cell? ⟨gb118, 0, none⟩ = some (.int .i64 t114) := (blk_cell BK118.out 0).trans rfl
            have hcz26_1 : w10.cell? ⟨gb118, 1, none⟩ = some (.bool t115) := (blk_cell BK118.out 1).trans rfl
            have hcz26_2 : w10.cell? ⟨gb118, 2, none⟩ = some (.int .i64 t116) := (blk_cell BK118.out 2).trans rfl
            have hcz26_3 : w10.cell? ⟨gb118, 3, none⟩ = some (.int .i64 t117) := (blk_cell BK118.out 3).trans rfl
            have hfz26_0 := blk_frozen BK118.out 0
            have hfz26_1 := blk_frozen BK118.out 1
            have hfz26_2 := blk_frozen BK118.out 2
            have hfz26_3 := blk_frozen BK118.out 3
            have hcz27_0 : w10.cell? ⟨gb123, 0, none⟩ = some (.int .i64 0) := (blk_cell BK123.out 0).trans rfl
            have hcz27_1 : w10.cell? ⟨gb123, 1, none⟩ = some (.bool false) := (blk_cell BK123.out 1).trans rfl
            have hcz27_2 : w10.cell? ⟨gb123, 2, none⟩ = some (.int .i64 0) := (blk_cell BK123.out 2).trans rfl
            have hcz27_3 : w10.cell? ⟨gb123, 3, none⟩ = some (.int .i64 0) := (blk_cell BK123.out 3).trans rfl
            have hfz27_0 := blk_frozen BK123.out 0
            have hfz27_1 := blk_frozen BK123.out 1
            have hfz27_2 := blk_frozen BK123.out 2
            have hfz27_3 := blk_frozen BK123.out 3
            go_wp2
            go_meet
            case rel => exact ⟨_, (false), (by first | rfl | (simp; done) | (simp [*]; done)), H', ⟨by first | omega | exact Nat.le_refl _⟩, ⟨by (with_reducible repeat (first | refine blk_drewN ?_ _ | refine blk_drew ?_ | refine blk_alloc ?_ _)); refine blk_far ?_ NB118_123.out _; (with_reducible repeat (first | refine blk_drewN ?_ _ | refine blk_drew ?_ | refine blk_alloc ?_ _)); refine blk_far ?_ NB118_123.out _; (with_reducible repeat (first | refine blk_drewN ?_ _ | refine blk_drew ?_ | refine blk_alloc ?_ _)); refine blk_far ?_ NB118_123.out _; (with_reducible repeat (first | refine blk_drewN ?_ _ | refine blk_drew ?_ | refine blk_alloc ?_ _)); refine blk_far ?_ NB118_123.out _; (with_reducible repeat (first | refine blk_drewN ?_ _ | refine blk_drew ?_ | refine blk_alloc ?_ _)); exact BK118.out⟩, ⟨by (with_reducible repeat (first | refine blk_drewN ?_ _ | refine blk_drew ?_ | refine blk_alloc ?_ _)); refine blk_put (cs := #[.int .i64 t119, .bool t120, .int .i64 t121, .int .i64 0]) ?_ 3 _ rfl; (with_reducible repeat (first | refine blk_drewN ?_ _ | refine blk_drew ?_ | refine blk_alloc ?_ _)); refine blk_put (cs := #[.int .i64 t119, .bool t120, .int .i64 0, .int .i64 0]) ?_ 2 _ rfl; (with_reducible repeat (first | refine blk_drewN ?_ _ | refine blk_drew ?_ | refine blk_alloc ?_ _)); refine blk_put (cs := #[.int .i64 t119, .bool false, .int .i64 0, .int .i64 0]) ?_ 1 _ rfl; (with_reducible repeat (first | refine blk_drewN ?_ _ | refine blk_drew ?_ | refine blk_alloc ?_ _)); refine blk_put (cs := #[.int .i64 0, .bool false, .int .i64 0, .int .i64 0]) ?_ 0 _ rfl; (with_reducible repeat (first | refine blk_drewN ?_ _ | refine blk_drew ?_ | refine blk_alloc ?_ _)); exact BK123.out⟩, ⟨by repeat (first | (with_reducible first | exact HB.out | apply below_alloc | apply pw_below_drewN | apply below_drew1 | refine below_set ?_ GE118.out | refine below_set ?_ GE123.out) | exact HB.out)⟩⟩
        · rw [if_neg c20] at H
          have c20b0 : (t114 == 1) = false := beq_eq_false_iff_ne.mpr c20
          have c20b1 : (t114 != 1) = true := bne_iff_ne.mpr c20
          have H' := Aside0.mk H
          clear H
          have hnb28 := NB118_123.out
          have hnc28 := NB123_118.out
          have hcz29_0 : w10.cell? ⟨gb118, 0, none⟩ = some (.int .i64 t114) := (blk_cell BK118.out 0).trans rfl
          have hcz29_1 : w10.cell? ⟨gb118, 1, none⟩ = some (.bool t115) := (blk_cell BK118.out 1).trans rfl
          have hcz29_2 : w10.cell? ⟨gb118, 2, none⟩ = some (.int .i64 t116) := (blk_cell BK118.out 2).trans rfl
          have hcz29_3 : w10.cell? ⟨gb118, 3, none⟩ = some (.int .i64 t117) := (blk_cell BK118.out 3).trans rfl
          have hfz29_0 := blk_frozen BK118.out 0
          have hfz29_1 := blk_frozen BK118.out 1
          have hfz29_2 := blk_frozen BK118.out 2
          have hfz29_3 := blk_frozen BK118.out 3
          have hcz30_0 : w10.cell? ⟨gb123, 0, none⟩ = some (.int .i64 0) := (blk_cell BK123.out 0).trans rfl
          have hcz30_1 : w10.cell? ⟨gb123, 1, none⟩ = some (.bool false) := (blk_cell BK123.out 1).trans rfl
          have hcz30_2 : w10.cell? ⟨gb123, 2, none⟩ = some (.int .i64 0) := (blk_cell BK123.out 2).trans rfl
          have hcz30_3 : w10.cell? ⟨gb123, 3, none⟩ = some (.int .i64 0) := (blk_cell BK123.out 3).trans rfl
          have hfz30_0 := blk_frozen BK123.out 0
          have hfz30_1 := blk_frozen BK123.out 1
          have hfz30_2 := blk_frozen BK123.out 2
          have hfz30_3 := blk_frozen BK123.out 3
          go_wp2
          go_meet
          case rel => exact ⟨_, (false), (by first | rfl | (simp; done) | (simp [*]; done)), H', ⟨by first | omega | exact Nat.le_refl _⟩, ⟨by (with_reducible repeat (first | refine blk_drewN ?_ _ | refine blk_drew ?_ | refine blk_alloc ?_ _)); refine blk_far ?_ NB118_123.out _; (with_reducible repeat (first | refine blk_drewN ?_ _ | refine blk_drew ?_ | refine blk_alloc ?_ _)); refine blk_far ?_ NB118_123.out _; (with_reducible repeat (first | refine blk_drewN ?_ _ | refine blk_drew ?_ | refine blk_alloc ?_ _)); refine blk_far ?_ NB118_123.out _; (with_reducible repeat (first | refine blk_drewN ?_ _ | refine blk_drew ?_ | refine blk_alloc ?_ _)); refine blk_far ?_ NB118_123.out _; (with_reducible repeat (first | refine blk_drewN ?_ _ | refine blk_drew ?_ | refine blk_alloc ?_ _)); exact BK118.out⟩, ⟨by (with_reducible repeat (first | refine blk_drewN ?_ _ | refine blk_drew ?_ | refine blk_alloc ?_ _)); refine blk_put (cs := #[.int .i64 t119, .bool t120, .int .i64 t121, .int .i64 0]) ?_ 3 _ rfl; (with_reducible repeat (first | refine blk_drewN ?_ _ | refine blk_drew ?_ | refine blk_alloc ?_ _)); refine blk_put (cs := #[.int .i64 t119, .bool t120, .int .i64 0, .int .i64 0]) ?_ 2 _ rfl; (with_reducible repeat (first | refine blk_drewN ?_ _ | refine blk_drew ?_ | refine blk_alloc ?_ _)); refine blk_put (cs := #[.int .i64 t119, .bool false, .int .i64 0, .int .i64 0]) ?_ 1 _ rfl; (with_reducible repeat (first | refine blk_drewN ?_ _ | refine blk_drew ?_ | refine blk_alloc ?_ _)); refine blk_put (cs := #[.int .i64 0, .bool false, .int .i64 0, .int .i64 0]) ?_ 0 _ rfl; (with_reducible repeat (first | refine blk_drewN ?_ _ | refine blk_drew ?_ | refine blk_alloc ?_ _)); exact BK123.out⟩, ⟨by repeat (first | (with_reducible first | exact HB.out | apply below_alloc | apply pw_below_drewN | apply below_drew1 | refine below_set ?_ GE118.out | refine below_set ?_ GE123.out) | exact HB.out)⟩⟩
  case rest =>
    clear HC5
    try clear c1
    try clear c2
    try clear p2
    try clear c5
    try clear c7
    try clear c11
    try clear c13
    try clear c13b0
    try clear c13b1
    try clear c14
    try clear c16
    try clear c16b0
    try clear c16b1
    try clear c17
    try clear c20
    try clear c20b0
    try clear c20b1
    try clear c21
    try clear c21b0
    try clear c21b1
    try clear c22
    try clear c25
    try clear c28
    try clear hcz12_0
    try clear hcz12_1
    try clear hcz12_2
    try clear hcz12_3
    try clear hcz15_0
    try clear hcz15_1
    try clear hcz15_2
    try clear hcz15_3
    try clear hcz18_0
    try clear hcz18_1
    try clear hcz18_2
    try clear hcz18_3
    try clear hcz19_0
    try clear hcz19_1
    try clear hcz19_2
    try clear hcz19_3
    try clear hcz23_0
    try clear hcz23_1
    try clear hcz23_2
    try clear hcz23_3
    try clear hcz24_0
    try clear hcz24_1
    try clear hcz24_2
    try clear hcz24_3
    try clear hcz26_0
    try clear hcz26_1
    try clear hcz26_2
    try clear hcz26_3
    try clear hcz27_0
    try clear hcz27_1
    try clear hcz27_2
    try clear hcz27_3
    try clear hcz29_0
    try clear hcz29_1
    try clear hcz29_2
    try clear hcz29_3
    try clear hcz30_0
    try clear hcz30_1
    try clear hcz30_2
    try clear hcz30_3
    try clear hcz8_0
    try clear hcz8_1
    try clear hcz8_2
    try clear hcz8_3
    try clear hfz12_0
    try clear hfz12_1
    try clear hfz12_2
    try clear hfz12_3
    try clear hfz15_0
    try clear hfz15_1
    try clear hfz15_2
    try clear hfz15_3
    try clear hfz18_0
    try clear hfz18_1
    try clear hfz18_2
    try clear hfz18_3
    try clear hfz19_0
    try clear hfz19_1
    try clear hfz19_2
    try clear hfz19_3
    try clear hfz23_0
    try clear hfz23_1
    try clear hfz23_2
    try clear hfz23_3
    try clear hfz24_0
    try clear hfz24_1
    try clear hfz24_2
    try clear hfz24_3
    try clear hfz26_0
    try clear hfz26_1
    try clear hfz26_2
    try clear hfz26_3
    try clear hfz27_0
    try clear hfz27_1
    try clear hfz27_2
    try clear hfz27_3
    try clear hfz29_0
    try clear hfz29_1
    try clear hfz29_2
    try clear hfz29_3
    try clear hfz30_0
    try clear hfz30_1
    try clear hfz30_2
    try clear hfz30_3
    try clear hfz8_0
    try clear hfz8_1
    try clear hfz8_2
    try clear hfz8_3
    obtain ⟨kq, x41_4, rfl, HA, HJ4, BK118, BK123, HB⟩ := hcut
    cases kq with
    | zero => exact absurd HA.out (by simp [spec_FAdd.j0])
    | succ kj4 =>
      have H := HA.out
      clear HA
      simp only [spec_FAdd.j0] at H
      by_cases c31 : x41_4 = true
      · subst c31
        have H1 : (some 2143289344) = some r := by rw [if_pos rfl] at H; exact H
        clear H
        have H := H1
        clear H1
        obtain rfl := Option.some.inj H
        go_wp2
        go_ret
        exact ⟨by first | rfl | (simp [errW_none, errW_some] <;> rfl) | (simp [*, errW_none, errW_some] <;> rfl), by repeat (first | (with_reducible first | exact HB.out | apply below_alloc | apply pw_below_drewN | apply below_drew1 | refine below_set ?_ GE118.out | refine below_set ?_ GE123.out) | exact HB.out)⟩
      · replace c31 := Bool.eq_false_iff.mpr c31
        subst c31
        have H1 : (if t114 = 1 then ((spec_l2Infinity.f t115).bind fun t124 => (some t124)) else (if t119 = 1 then ((spec_l2Infinity.f t120).bind fun t125 => (some t125)) else (if t117 < t122 then (spec_FAdd.j1 kj4 true t114 t115 t116 t117 t119 t120 t121 t122) else (if t117 = t122 then (spec_FAdd.j1 kj4 (decide (t116 < t121)) t114 t115 t116 t117 t119 t120 t121 t122) else (spec_FAdd.j1 kj4 false t114 t115 t116 t117 t119 t120 t121 t122))))) = some r := by rw [if_neg (show ¬ (false = true) by decide)] at H; exact H
        clear H
        have H := H1
        clear H1
        by_cases c32 : t114 = 1
        · rw [if_pos c32] at H
          have c32b0 : (t114 == 1) = true := beq_iff_eq.mpr c32
          have c32b1 : (t114 != 1) = false := bne_eq_false_iff_eq.mpr c32
          clear c32
          replace H := Option.bind_eq_some_iff.mp H
          obtain ⟨t124, A330, H⟩ := H
          replace H : (some t124) = some r := H
          have A33 := Aside0.mk A330
          clear A330
          obtain rfl := Option.some.inj H
          have hnb34 := NB118_123.out
          have hnc34 := NB123_118.out
          have hcz35_0 : wc.cell? ⟨gb118, 0, none⟩ = some (.int .i64 t114) := (blk_cell BK118.out 0).trans rfl
          have hcz35_1 : wc.cell? ⟨gb118, 1, none⟩ = some (.bool t115) := (blk_cell BK118.out 1).trans rfl
          have hcz35_2 : wc.cell? ⟨gb118, 2, none⟩ = some (.int .i64 t116) := (blk_cell BK118.out 2).trans rfl
          have hcz35_3 : wc.cell? ⟨gb118, 3, none⟩ = some (.int .i64 t117) := (blk_cell BK118.out 3).trans rfl
          have hfz35_0 := blk_frozen BK118.out 0
          have hfz35_1 := blk_frozen BK118.out 1
          have hfz35_2 := blk_frozen BK118.out 2
          have hfz35_3 := blk_frozen BK118.out 3
          go_wp2_with (first | ((with_reducible refine gate_callee (f := 79) rfl ?_); refine goesL_ (some 47) rfl rfl Try.func79 (by kernel_rfl) rfl #[.bool t115] rfl (by (try simp only [List.map_toArray, List.map_cons, List.map_nil]); first | done | rfl | (simp only [List.length_drop, List.length_take]; rfl)) ?_; (with_reducible refine (spec_l2Infinity.calls t115 t124 _ A33.out).mono ?_); rintro e w' ⟨rfl, ⟨nd, rfl⟩⟩; refine ⟨_, rfl, ?_⟩))
          go_ret
          exact ⟨by first | rfl | (simp [errW_none, errW_some] <;> rfl) | (simp [*, errW_none, errW_some] <;> rfl), by repeat (first | (with_reducible first | exact HB.out | apply below_alloc | apply pw_below_drewN | apply below_drew1 | refine below_set ?_ GE118.out | refine below_set ?_ GE123.out) | exact HB.out)⟩
        · rw [if_neg c32] at H
          have c32b0 : (t114 == 1) = false := beq_eq_false_iff_ne.mpr c32
          have c32b1 : (t114 != 1) = true := bne_iff_ne.mpr c32
          by_cases c36 : t119 = 1
          · rw [if_pos c36] at H
            have c36b0 : (t119 == 1) = true := beq_iff_eq.mpr c36
            have c36b1 : (t119 != 1) = false := bne_eq_false_iff_eq.mpr c36
            clear c36
            replace H := Option.bind_eq_some_iff.mp H
            obtain ⟨t125, A370, H⟩ := H
            replace H : (some t125) = some r := H
            have A37 := Aside0.mk A370
            clear A370
            obtain rfl := Option.some.inj H
            have hnb38 := NB118_123.out
            have hnc38 := NB123_118.out
            have hcz39_0 : wc.cell? ⟨gb118, 0, none⟩ = some (.int .i64 t114) := (blk_cell BK118.out 0).trans rfl
            have hcz39_1 : wc.cell? ⟨gb118, 1, none⟩ = some (.bool t115) := (blk_cell BK118.out 1).trans rfl
            have hcz39_2 : wc.cell? ⟨gb118, 2, none⟩ = some (.int .i64 t116) := (blk_cell BK118.out 2).trans rfl
            have hcz39_3 : wc.cell? ⟨gb118, 3, none⟩ = some (.int .i64 t117) := (blk_cell BK118.out 3).trans rfl
            have hfz39_0 := blk_frozen BK118.out 0
            have hfz39_1 := blk_frozen BK118.out 1
            have hfz39_2 := blk_frozen BK118.out 2
            have hfz39_3 := blk_frozen BK118.out 3
            have hcz40_0 : wc.cell? ⟨gb123, 0, none⟩ = some (.int .i64 t119) := (blk_cell BK123.out 0).trans rfl
            have hcz40_1 : wc.cell? ⟨gb123, 1, none⟩ = some (.bool t120) := (blk_cell BK123.out 1).trans rfl
            have hcz40_2 : wc.cell? ⟨gb123, 2, none⟩ = some (.int .i64 t121) := (blk_cell BK123.out 2).trans rfl
            have hcz40_3 : wc.cell? ⟨gb123, 3, none⟩ = some (.int .i64 t122) := (blk_cell BK123.out 3).trans rfl
            have hfz40_0 := blk_frozen BK123.out 0
            have hfz40_1 := blk_frozen BK123.out 1
            have hfz40_2 := blk_frozen BK123.out 2
            have hfz40_3 := blk_frozen BK123.out 3
            go_wp2_with (first | ((with_reducible refine gate_callee (f := 79) rfl ?_); refine goesL_ (some 53) rfl rfl Try.func79 (by kernel_rfl) rfl #[.bool t120] rfl (by (try simp only [List.map_toArray, List.map_cons, List.map_nil]); first | done | rfl | (simp only [List.length_drop, List.length_take]; rfl)) ?_; (with_reducible refine (spec_l2Infinity.calls t120 t125 _ A37.out).mono ?_); rintro e w' ⟨rfl, ⟨nd, rfl⟩⟩; refine ⟨_, rfl, ?_⟩))
            go_ret
            exact ⟨by first | rfl | (simp [errW_none, errW_some] <;> rfl) | (simp [*, errW_none, errW_some] <;> rfl), by repeat (first | (with_reducible first | exact HB.out | apply below_alloc | apply pw_below_drewN | apply below_drew1 | refine below_set ?_ GE118.out | refine below_set ?_ GE123.out) | exact HB.out)⟩
          · rw [if_neg c36] at H
            have c36b0 : (t119 == 1) = false := beq_eq_false_iff_ne.mpr c36
            have c36b1 : (t119 != 1) = true := bne_iff_ne.mpr c36
            have HC41 := Aside0.mk H
            clear H
            have hnb42 := NB118_123.out
            have hnc42 := NB123_118.out
            have hcz43_0 : wc.cell? ⟨gb118, 0, none⟩ = some (.int .i64 t114) := (blk_cell BK118.out 0).trans rfl
            have hcz43_1 : wc.cell? ⟨gb118, 1, none⟩ = some (.bool t115) := (blk_cell BK118.out 1).trans rfl
            have hcz43_2 : wc.cell? ⟨gb118, 2, none⟩ = some (.int .i64 t116) := (blk_cell BK118.out 2).trans rfl
            have hcz43_3 : wc.cell? ⟨gb118, 3, none⟩ = some (.int .i64 t117) := (blk_cell BK118.out 3).trans rfl
            have hfz43_0 := blk_frozen BK118.out 0
            have hfz43_1 := blk_frozen BK118.out 1
            have hfz43_2 := blk_frozen BK118.out 2
            have hfz43_3 := blk_frozen BK118.out 3
            have hcz44_0 : wc.cell? ⟨gb123, 0, none⟩ = some (.int .i64 t119) := (blk_cell BK123.out 0).trans rfl
            have hcz44_1 : wc.cell? ⟨gb123, 1, none⟩ = some (.bool t120) := (blk_cell BK123.out 1).trans rfl
            have hcz44_2 : wc.cell? ⟨gb123, 2, none⟩ = some (.int .i64 t121) := (blk_cell BK123.out 2).trans rfl
            have hcz44_3 : wc.cell? ⟨gb123, 3, none⟩ = some (.int .i64 t122) := (blk_cell BK123.out 3).trans rfl
            have hfz44_0 := blk_frozen BK123.out 0
            have hfz44_1 := blk_frozen BK123.out 1
            have hfz44_2 := blk_frozen BK123.out 2
            have hfz44_3 := blk_frozen BK123.out 3
            go_upto_region 9 with (fail)
            go_cut [72] (fun v72 wc => ∃ (kq : Nat) (x72_40 : Bool), v72 = .bool x72_40 ∧ Aside0 (spec_FAdd.j1 kq x72_40 t114 t115 t116 t117 t119 t120 t121 t122 = some r) ∧ Aside0 (kq ≤ kj4) ∧ Aside0 (wc.heap[gb118]? = some (.cells #[.int .i64 t114, .bool t115, .int .i64 t116, .int .i64 t117] 95 (0, 0))) ∧ Aside0 (wc.heap[gb123]? = some (.cells #[.int .i64 t119, .bool t120, .int .i64 t121, .int .i64 t122] 95 (0, 0))) ∧ Aside0 (Below w.heap.size w wc))
            case first =>
              have H := HC41.out
              clear HC41
              by_cases c45 : t117 < t122
              · rw [if_pos c45] at H
                have c45b0 : decide (t117 < t122) = true := decide_eq_true c45
                clear c45
                (first | rw [c45b0] | (simp only [i64_w, i32_w]; rw [c45b0]) | skip)
                have H' := Aside0.mk H
                clear H
                have hnb46 := NB118_123.out
                have hnc46 := NB123_118.out
                have hcz47_0 : wc.cell? ⟨gb118, 0, none⟩ = some (.int .i64 t114) := (blk_cell BK118.out 0).trans rfl
                have hcz47_1 : wc.cell? ⟨gb118, 1, none⟩ = some (.bool t115) := (blk_cell BK118.out 1).trans rfl
                have hcz47_2 : wc.cell? ⟨gb118, 2, none⟩ = some (.int .i64 t116) := (blk_cell BK118.out 2).trans rfl
                have hcz47_3 : wc.cell? ⟨gb118, 3, none⟩ = some (.int .i64 t117) := (blk_cell BK118.out 3).trans rfl
                have hfz47_0 := blk_frozen BK118.out 0
                have hfz47_1 := blk_frozen BK118.out 1
                have hfz47_2 := blk_frozen BK118.out 2
                have hfz47_3 := blk_frozen BK118.out 3
                have hcz48_0 : wc.cell? ⟨gb123, 0, none⟩ = some (.int .i64 t119) := (blk_cell BK123.out 0).trans rfl
                have hcz48_1 : wc.cell? ⟨gb123, 1, none⟩ = some (.bool t120) := (blk_cell BK123.out 1).trans rfl
                have hcz48_2 : wc.cell? ⟨gb123, 2, none⟩ = some (.int .i64 t121) := (blk_cell BK123.out 2).trans rfl
                have hcz48_3 : wc.cell? ⟨gb123, 3, none⟩ = some (.int .i64 t122) := (blk_cell BK123.out 3).trans rfl
                have hfz48_0 := blk_frozen BK123.out 0
                have hfz48_1 := blk_frozen BK123.out 1
                have hfz48_2 := blk_frozen BK123.out 2
                have hfz48_3 := blk_frozen BK123.out 3
                go_wp2
                go_meet
                case rel => exact ⟨_, (true), (by first | rfl | (simp; done) | (simp [*]; done)), H', ⟨by have := HJ4.out; first | omega | exact Nat.le_refl _⟩, ⟨by (with_reducible repeat (first | refine blk_drewN ?_ _ | refine blk_drew ?_ | refine blk_alloc ?_ _)); exact BK118.out⟩, ⟨by (with_reducible repeat (first | refine blk_drewN ?_ _ | refine blk_drew ?_ | refine blk_alloc ?_ _)); exact BK123.out⟩, ⟨by repeat (first | (with_reducible first | exact HB.out | apply below_alloc | apply pw_below_drewN | apply below_drew1 | refine below_set ?_ GE118.out | refine below_set ?_ GE123.out) | exact HB.out)⟩⟩
              · rw [if_neg c45] at H
                have c45b0 : decide (t117 < t122) = false := decide_eq_false c45
                clear c45
                (first | rw [c45b0] | (simp only [i64_w, i32_w]; rw [c45b0]) | skip)
                by_cases c49 : t117 = t122
                · rw [if_pos c49] at H
                  have c49b0 : (t117 == t122) = true := beq_iff_eq.mpr c49
                  have c49b1 : (t117 != t122) = false := bne_eq_false_iff_eq.mpr c49
                  clear c49
                  have H' := Aside0.mk H
                  clear H
                  have hnb50 := NB118_123.out
                  have hnc50 := NB123_118.out
                  have hcz51_0 : wc.cell? ⟨gb118, 0, none⟩ = some (.int .i64 t114) := (blk_cell BK118.out 0).trans rfl
                  have hcz51_1 : wc.cell? ⟨gb118, 1, none⟩ = some (.bool t115) := (blk_cell BK118.out 1).trans rfl
                  have hcz51_2 : wc.cell? ⟨gb118, 2, none⟩ = some (.int .i64 t116) := (blk_cell BK118.out 2).trans rfl
                  have hcz51_3 : wc.cell? ⟨gb118, 3, none⟩ = some (.int .i64 t117) := (blk_cell BK118.out 3).trans rfl
                  have hfz51_0 := blk_frozen BK118.out 0
                  have hfz51_1 := blk_frozen BK118.out 1
                  have hfz51_2 := blk_frozen BK118.out 2
                  have hfz51_3 := blk_frozen BK118.out 3
                  have hcz52_0 : wc.cell? ⟨gb123, 0, none⟩ = some (.int .i64 t119) := (blk_cell BK123.out 0).trans rfl
                  have hcz52_1 : wc.cell? ⟨gb123, 1, none⟩ = some (.bool t120) := (blk_cell BK123.out 1).trans rfl
                  have hcz52_2 : wc.cell? ⟨gb123, 2, none⟩ = some (.int .i64 t121) := (blk_cell BK123.out 2).trans rfl
                  have hcz52_3 : wc.cell? ⟨gb123, 3, none⟩ = some (.int .i64 t122) := (blk_cell BK123.out 3).trans rfl
                  have hfz52_0 := blk_frozen BK123.out 0
                  have hfz52_1 := blk_frozen BK123.out 1
                  have hfz52_2 := blk_frozen BK123.out 2
                  have hfz52_3 := blk_frozen BK123.out 3
                  go_wp2
                  go_meet
                  case rel => exact ⟨_, (decide (t116 < t121)), (by first | rfl | (simp; done) | (simp [*]; done)), H', ⟨by have := HJ4.out; first | omega | exact Nat.le_refl _⟩, ⟨by (with_reducible repeat (first | refine blk_drewN ?_ _ | refine blk_drew ?_ | refine blk_alloc ?_ _)); exact BK118.out⟩, ⟨by (with_reducible repeat (first | refine blk_drewN ?_ _ | refine blk_drew ?_ | refine blk_alloc ?_ _)); exact BK123.out⟩, ⟨by repeat (first | (with_reducible first | exact HB.out | apply below_alloc | apply pw_below_drewN | apply below_drew1 | refine below_set ?_ GE118.out | refine below_set ?_ GE123.out) | exact HB.out)⟩⟩
                · rw [if_neg c49] at H
                  have c49b0 : (t117 == t122) = false := beq_eq_false_iff_ne.mpr c49
                  have c49b1 : (t117 != t122) = true := bne_iff_ne.mpr c49
                  have H' := Aside0.mk H
                  clear H
                  have hnb53 := NB118_123.out
                  have hnc53 := NB123_118.out
                  have hcz54_0 : wc.cell? ⟨gb118, 0, none⟩ = some (.int .i64 t114) := (blk_cell BK118.out 0).trans rfl
                  have hcz54_1 : wc.cell? ⟨gb118, 1, none⟩ = some (.bool t115) := (blk_cell BK118.out 1).trans rfl
                  have hcz54_2 : wc.cell? ⟨gb118, 2, none⟩ = some (.int .i64 t116) := (blk_cell BK118.out 2).trans rfl
                  have hcz54_3 : wc.cell? ⟨gb118, 3, none⟩ = some (.int .i64 t117) := (blk_cell BK118.out 3).trans rfl
                  have hfz54_0 := blk_frozen BK118.out 0
                  have hfz54_1 := blk_frozen BK118.out 1
                  have hfz54_2 := blk_frozen BK118.out 2
                  have hfz54_3 := blk_frozen BK118.out 3
                  have hcz55_0 : wc.cell? ⟨gb123, 0, none⟩ = some (.int .i64 t119) := (blk_cell BK123.out 0).trans rfl
                  have hcz55_1 : wc.cell? ⟨gb123, 1, none⟩ = some (.bool t120) := (blk_cell BK123.out 1).trans rfl
                  have hcz55_2 : wc.cell? ⟨gb123, 2, none⟩ = some (.int .i64 t121) := (blk_cell BK123.out 2).trans rfl
                  have hcz55_3 : wc.cell? ⟨gb123, 3, none⟩ = some (.int .i64 t122) := (blk_cell BK123.out 3).trans rfl
                  have hfz55_0 := blk_frozen BK123.out 0
                  have hfz55_1 := blk_frozen BK123.out 1
                  have hfz55_2 := blk_frozen BK123.out 2
                  have hfz55_3 := blk_frozen BK123.out 3
                  go_wp2
                  go_meet
                  case rel => exact ⟨_, (false), (by first | rfl | (simp; done) | (simp [*]; done)), H', ⟨by have := HJ4.out; first | omega | exact Nat.le_refl _⟩, ⟨by (with_reducible repeat (first | refine blk_drewN ?_ _ | refine blk_drew ?_ | refine blk_alloc ?_ _)); exact BK118.out⟩, ⟨by (with_reducible repeat (first | refine blk_drewN ?_ _ | refine blk_drew ?_ | refine blk_alloc ?_ _)); exact BK123.out⟩, ⟨by repeat (first | (with_reducible first | exact HB.out | apply below_alloc | apply pw_below_drewN | apply below_drew1 | refine below_set ?_ GE118.out | refine below_set ?_ GE123.out) | exact HB.out)⟩⟩
            case rest =>
              clear HC41
              try clear c1
              try clear c2
              try clear p2
              try clear c3
              try clear c4
              try clear c5
              try clear c7
              try clear c11
              try clear c13
              try clear c13b0
              try clear c13b1
              try clear c14
              try clear c16
              try clear c16b0
              try clear c16b1
              try clear c17
              try clear c20
              try clear c20b0
              try clear c20b1
              try clear c21
              try clear c21b0
              try clear c21b1
              try clear c22
              try clear c25
              try clear c28
              try clear c31
              try clear c32
              try clear c32b0
              try clear c32b1
              try clear c34
              try clear c36
              try clear c36b0
              try clear c36b1
              try clear c38
              try clear c42
              try clear c45
              try clear c45b0
              try clear c46
              try clear c49
              try clear c49b0
              try clear c49b1
              try clear c50
              try clear c53
              try clear c54
              try clear hcz12_0
              try clear hcz12_1
              try clear hcz12_2
              try clear hcz12_3
              try clear hcz15_0
              try clear hcz15_1
              try clear hcz15_2
              try clear hcz15_3
              try clear hcz18_0
              try clear hcz18_1
              try clear hcz18_2
              try clear hcz18_3
              try clear hcz19_0
              try clear hcz19_1
              try clear hcz19_2
              try clear hcz19_3
              try clear hcz23_0
              try clear hcz23_1
              try clear hcz23_2
              try clear hcz23_3
              try clear hcz24_0
              try clear hcz24_1
              try clear hcz24_2
              try clear hcz24_3
              try clear hcz26_0
              try clear hcz26_1
              try clear hcz26_2
              try clear hcz26_3
              try clear hcz27_0
              try clear hcz27_1
              try clear hcz27_2
              try clear hcz27_3
              try clear hcz29_0
              try clear hcz29_1
              try clear hcz29_2
              try clear hcz29_3
              try clear hcz30_0
              try clear hcz30_1
              try clear hcz30_2
              try clear hcz30_3
              try clear hcz35_0
              try clear hcz35_1
              try clear hcz35_2
              try clear hcz35_3
              try clear hcz39_0
              try clear hcz39_1
              try clear hcz39_2
              try clear hcz39_3
              try clear hcz40_0
              try clear hcz40_1
              try clear hcz40_2
              try clear hcz40_3
              try clear hcz43_0
              try clear hcz43_1
              try clear hcz43_2
              try clear hcz43_3
              try clear hcz44_0
              try clear hcz44_1
              try clear hcz44_2
              try clear hcz44_3
              try clear hcz47_0
              try clear hcz47_1
              try clear hcz47_2
              try clear hcz47_3
              try clear hcz48_0
              try clear hcz48_1
              try clear hcz48_2
              try clear hcz48_3
              try clear hcz51_0
              try clear hcz51_1
              try clear hcz51_2
              try clear hcz51_3
              try clear hcz52_0
              try clear hcz52_1
              try clear hcz52_2
              try clear hcz52_3
              try clear hcz54_0
              try clear hcz54_1
              try clear hcz54_2
              try clear hcz54_3
              try clear hcz55_0
              try clear hcz55_1
              try clear hcz55_2
              try clear hcz55_3
              try clear hcz8_0
              try clear hcz8_1
              try clear hcz8_2
              try clear hcz8_3
              try clear hfz12_0
              try clear hfz12_1
              try clear hfz12_2
              try clear hfz12_3
              try clear hfz15_0
              try clear hfz15_1
              try clear hfz15_2
              try clear hfz15_3
              try clear hfz18_0
              try clear hfz18_1
              try clear hfz18_2
              try clear hfz18_3
              try clear hfz19_0
              try clear hfz19_1
              try clear hfz19_2
              try clear hfz19_3
              try clear hfz23_0
              try clear hfz23_1
              try clear hfz23_2
              try clear hfz23_3
              try clear hfz24_0
              try clear hfz24_1
              try clear hfz24_2
              try clear hfz24_3
              try clear hfz26_0
              try clear hfz26_1
              try clear hfz26_2
              try clear hfz26_3
              try clear hfz27_0
              try clear hfz27_1
              try clear hfz27_2
              try clear hfz27_3
              try clear hfz29_0
              try clear hfz29_1
              try clear hfz29_2
              try clear hfz29_3
              try clear hfz30_0
              try clear hfz30_1
              try clear hfz30_2
              try clear hfz30_3
              try clear hfz35_0
              try clear hfz35_1
              try clear hfz35_2
              try clear hfz35_3
              try clear hfz39_0
              try clear hfz39_1
              try clear hfz39_2
              try clear hfz39_3
              try clear hfz40_0
              try clear hfz40_1
              try clear hfz40_2
              try clear hfz40_3
              try clear hfz43_0
              try clear hfz43_1
              try clear hfz43_2
              try clear hfz43_3
              try clear hfz44_0
              try clear hfz44_1
              try clear hfz44_2
              try clear hfz44_3
              try clear hfz47_0
              try clear hfz47_1
              try clear hfz47_2
              try clear hfz47_3
              try clear hfz48_0
              try clear hfz48_1
              try clear hfz48_2
              try clear hfz48_3
              try clear hfz51_0
              try clear hfz51_1
              try clear hfz51_2
              try clear hfz51_3
              try clear hfz52_0
              try clear hfz52_1
              try clear hfz52_2
              try clear hfz52_3
              try clear hfz54_0
              try clear hfz54_1
              try clear hfz54_2
              try clear hfz54_3
              try clear hfz55_0
              try clear hfz55_1
              try clear hfz55_2
              try clear hfz55_3
              try clear hfz8_0
              try clear hfz8_1
              try clear hfz8_2
              try clear hfz8_3
              try clear p2
              obtain ⟨kq, x72_40, rfl, HA, HJ40, BK118, BK123, HB⟩ := hcut
              cases kq with
              | zero => exact absurd HA.out (by simp [spec_FAdd.j1])
              | succ kj40 =>
                have H := HA.out
                clear HA
                simp only [spec_FAdd.j1] at H
                have HC56 := Aside0.mk H
                clear H
                go_upto_if 72 with (fail)
                go_cut [] (fun wc => ∃ (kq : Nat) (x119000_55 : Int) (x119001_55 : Bool) (x119002_55 : Int) (x119003_55 : Int) (x124000_55 : Int) (x124001_55 : Bool) (x124002_55 : Int) (x124003_55 : Int), Aside0 (spec_FAdd.j2 kq x119000_55 x119001_55 x119002_55 x119003_55 x124000_55 x124001_55 x124002_55 x124003_55 = some r) ∧ Aside0 (kq ≤ kj40) ∧ Aside0 (wc.heap[gb118]? = some (.cells #[.int .i64 x119000_55, .bool x119001_55, .int .i64 x119002_55, .int .i64 x119003_55] 95 (0, 0))) ∧ Aside0 (wc.heap[gb123]? = some (.cells #[.int .i64 x124000_55, .bool x124001_55, .int .i64 x124002_55, .int .i64 x124003_55] 95 (0, 0))) ∧ Aside0 (Below w.heap.size w wc))
                case first =>
                  have H := HC56.out
                  clear HC56
                  by_cases c57 : x72_40 = true
                  · subst c57
                    have H1 : (spec_FAdd.j2 kj40 t119 t120 t121 t122 t114 t115 t116 t117) = some r := by rw [if_pos rfl] at H; exact H
                    clear H
                    have H := H1
                    clear H1
                    have H' := Aside0.mk H
                    clear H
                    have hnb58 := NB118_123.out
                    have hnc58 := NB123_118.out
                    have hcz59_0 : wc.cell? ⟨gb118, 0, none⟩ = some (.int .i64 t114) := (blk_cell BK118.out 0).trans rfl
                    have hcz59_1 : wc.cell? ⟨gb118, 1, none⟩ = some (.bool t115) := (blk_cell BK118.out 1).trans rfl
                    have hcz59_2 : wc.cell? ⟨gb118, 2, none⟩ = some (.int .i64 t116) := (blk_cell BK118.out 2).trans rfl
                    have hcz59_3 : wc.cell? ⟨gb118, 3, none⟩ = some (.int .i64 t117) := (blk_cell BK118.out 3).trans rfl
                    have hfz59_0 := blk_frozen BK118.out 0
                    have hfz59_1 := blk_frozen BK118.out 1
                    have hfz59_2 := blk_frozen BK118.out 2
                    have hfz59_3 := blk_frozen BK118.out 3
                    go_wp2_with (first | ((with_reducible refine gate_dst (N := 7) rfl ?_); refine box_event ?hg (N := 7) ?hd (cs := #[.int .i64 0, .bool false, .int .i64 0, .int .i64 0]) (t := 95) ?hr ?_; (case hd => rfl); (case hg => rfl); (case hr => first | (go_simp; done) | (go_simp; rfl)); intro gb126 hg w60 hbox hb; have n0_ := Aside0.mk (blk_below (g := gb118) (o := .cells #[.int .i64 t114, .bool t115, .int .i64 t116, .int .i64 t117] 95 (0, 0)) (by (with_reducible repeat (first | refine blk_drewN ?_ _ | refine blk_drew ?_ | refine blk_alloc ?_ _)); exact BK118.out) hb); have n1_ := Aside0.mk (blk_below (g := gb123) (o := .cells #[.int .i64 t119, .bool t120, .int .i64 t121, .int .i64 t122] 95 (0, 0)) (by (with_reducible repeat (first | refine blk_drewN ?_ _ | refine blk_drew ?_ | refine blk_alloc ?_ _)); exact BK123.out) hb); have n2_ := Aside0.mk (below_step (by repeat (first | (with_reducible first | exact HB.out | apply below_alloc | apply pw_below_drewN | apply below_drew1 | refine below_set ?_ GE118.out | refine below_set ?_ GE123.out) | exact HB.out)) hb); have n3_ := Aside0.mk (hbox); have n4_ := Aside0.mk ((by rw [hg]; exact (below_size (by repeat (first | (with_reducible first | exact HB.out | apply below_alloc | apply pw_below_drewN | apply below_drew1 | refine below_set ?_ GE118.out | refine below_set ?_ GE123.out) | exact HB.out))) : w.heap.size ≤ gb126)); have n5_ := Aside0.mk ((by rw [hg]; exact (below_size (by repeat (first | (with_reducible first | exact HB.out | apply below_alloc | apply pw_below_drewN | apply below_drew1 | refine below_set ?_ GE118.out | refine below_set ?_ GE123.out) | exact HB.out))) : w.heap.size ≤ gb126)); have n6_ := Aside0.mk ((by rw [hg]; exact Nat.ne_of_lt (blk_lt (g := gb118) (o := .cells #[.int .i64 t114, .bool t115, .int .i64 t116, .int .i64 t117] 95 (0, 0)) (by (with_reducible repeat (first | refine blk_drewN ?_ _ | refine blk_drew ?_ | refine blk_alloc ?_ _)); exact BK118.out)) : gb118 ≠ gb126)); have n7_ := Aside0.mk ((by rw [hg]; exact Nat.ne_of_gt (blk_lt (g := gb118) (o := .cells #[.int .i64 t114, .bool t115, .int .i64 t116, .int .i64 t117] 95 (0, 0)) (by (with_reducible repeat (first | refine blk_drewN ?_ _ | refine blk_drew ?_ | refine blk_alloc ?_ _)); exact BK118.out)) : gb126 ≠ gb118)); have n8_ := Aside0.mk ((by rw [hg]; exact Nat.ne_of_lt (blk_lt (g := gb123) (o := .cells #[.int .i64 t119, .bool t120, .int .i64 t121, .int .i64 t122] 95 (0, 0)) (by (with_reducible repeat (first | refine blk_drewN ?_ _ | refine blk_drew ?_ | refine blk_alloc ?_ _)); exact BK123.out)) : gb123 ≠ gb126)); have n9_ := Aside0.mk ((by rw [hg]; exact Nat.ne_of_gt (blk_lt (g := gb123) (o := .cells #[.int .i64 t119, .bool t120, .int .i64 t121, .int .i64 t122] 95 (0, 0)) (by (with_reducible repeat (first | refine blk_drewN ?_ _ | refine blk_drew ?_ | refine blk_alloc ?_ _)); exact BK123.out)) : gb126 ≠ gb123)); clear BK118; clear BK123; clear HB; have BK118 := n0_; have BK123 := n1_; have HB := n2_; have BK126 := n3_; have GW126 := n4_; have GE126 := n5_; have NB118_126 := n6_; have NB126_118 := n7_; have NB123_126 := n8_; have NB126_123 := n9_; clear n0_ n1_ n2_ n3_ n4_ n5_ n6_ n7_ n8_ n9_; clear hb hbox hg; have hnb61 := NB126_118.out; have hnc61 := NB118_126.out; have hnb62 := NB126_123.out; have hnc62 := NB123_126.out; have hcz63_0 : w60.cell? ⟨gb126, 0, none⟩ = some (.int .i64 0) := (blk_cell BK126.out 0).trans rfl; have hcz63_1 : w60.cell? ⟨gb126, 1, none⟩ = some (.bool false) := (blk_cell BK126.out 1).trans rfl; have hcz63_2 : w60.cell? ⟨gb126, 2, none⟩ = some (.int .i64 0) := (blk_cell BK126.out 2).trans rfl; have hcz63_3 : w60.cell? ⟨gb126, 3, none⟩ = some (.int .i64 0) := (blk_cell BK126.out 3).trans rfl; have hfz63_0 := blk_frozen BK126.out 0; have hfz63_1 := blk_frozen BK126.out 1; have hfz63_2 := blk_frozen BK126.out 2; have hfz63_3 := blk_frozen BK126.out 3; have hcz64_0 : w60.cell? ⟨gb123, 0, none⟩ = some (.int .i64 t119) := (blk_cell BK123.out 0).trans rfl; have hcz64_1 : w60.cell? ⟨gb123, 1, none⟩ = some (.bool t120) := (blk_cell BK123.out 1).trans rfl; have hcz64_2 : w60.cell? ⟨gb123, 2, none⟩ = some (.int .i64 t121) := (blk_cell BK123.out 2).trans rfl; have hcz64_3 : w60.cell? ⟨gb123, 3, none⟩ = some (.int .i64 t122) := (blk_cell BK123.out 3).trans rfl; have hfz64_0 := blk_frozen BK123.out 0; have hfz64_1 := blk_frozen BK123.out 1; have hfz64_2 := blk_frozen BK123.out 2; have hfz64_3 := blk_frozen BK123.out 3; have hcz65_0 : w60.cell? ⟨gb118, 0, none⟩ = some (.int .i64 t114) := (blk_cell BK118.out 0).trans rfl; have hcz65_1 : w60.cell? ⟨gb118, 1, none⟩ = some (.bool t115) := (blk_cell BK118.out 1).trans rfl; have hcz65_2 : w60.cell? ⟨gb118, 2, none⟩ = some (.int .i64 t116) := (blk_cell BK118.out 2).trans rfl; have hcz65_3 : w60.cell? ⟨gb118, 3, none⟩ = some (.int .i64 t117) := (blk_cell BK118.out 3).trans rfl; have hfz65_0 := blk_frozen BK118.out 0; have hfz65_1 := blk_frozen BK118.out 1; have hfz65_2 := blk_frozen BK118.out 2; have hfz65_3 := blk_frozen BK118.out 3))
                    go_meet
                    case rel => exact ⟨_, (t119), (t120), (t121), (t122), (t114), (t115), (t116), (t117), H', ⟨by have := HJ4.out; have := HJ40.out; first | omega | exact Nat.le_refl _⟩, ⟨by (with_reducible repeat (first | refine blk_drewN ?_ _ | refine blk_drew ?_ | refine blk_alloc ?_ _)); refine blk_far ?_ NB118_123.out _; (with_reducible repeat (first | refine blk_drewN ?_ _ | refine blk_drew ?_ | refine blk_alloc ?_ _)); refine blk_far ?_ NB118_123.out _; (with_reducible repeat (first | refine blk_drewN ?_ _ | refine blk_drew ?_ | refine blk_alloc ?_ _)); refine blk_far ?_ NB118_123.out _; (with_reducible repeat (first | refine blk_drewN ?_ _ | refine blk_drew ?_ | refine blk_alloc ?_ _)); refine blk_far ?_ NB118_123.out _; (with_reducible repeat (first | refine blk_drewN ?_ _ | refine blk_drew ?_ | refine blk_alloc ?_ _)); refine blk_put (cs := #[.int .i64 t119, .bool t120, .int .i64 t121, .int .i64 t117]) ?_ 3 _ rfl; (with_reducible repeat (first | refine blk_drewN ?_ _ | refine blk_drew ?_ | refine blk_alloc ?_ _)); refine blk_put (cs := #[.int .i64 t119, .bool t120, .int .i64 t116, .int .i64 t117]) ?_ 2 _ rfl; (with_reducible repeat (first | refine blk_drewN ?_ _ | refine blk_drew ?_ | refine blk_alloc ?_ _)); refine blk_put (cs := #[.int .i64 t119, .bool t115, .int .i64 t116, .int .i64 t117]) ?_ 1 _ rfl; (with_reducible repeat (first | refine blk_drewN ?_ _ | refine blk_drew ?_ | refine blk_alloc ?_ _)); refine blk_put (cs := #[.int .i64 t114, .bool t115, .int .i64 t116, .int .i64 t117]) ?_ 0 _ rfl; (with_reducible repeat (first | refine blk_drewN ?_ _ | refine blk_drew ?_ | refine blk_alloc ?_ _)); refine blk_far ?_ NB118_126.out _; (with_reducible repeat (first | refine blk_drewN ?_ _ | refine blk_drew ?_ | refine blk_alloc ?_ _)); refine blk_far ?_ NB118_126.out _; (with_reducible repeat (first | refine blk_drewN ?_ _ | refine blk_drew ?_ | refine blk_alloc ?_ _)); refine blk_far ?_ NB118_126.out _; (with_reducible repeat (first | refine blk_drewN ?_ _ | refine blk_drew ?_ | refine blk_alloc ?_ _)); refine blk_far ?_ NB118_126.out _; (with_reducible repeat (first | refine blk_drewN ?_ _ | refine blk_drew ?_ | refine blk_alloc ?_ _)); exact BK118.out⟩, ⟨by (with_reducible repeat (first | refine blk_drewN ?_ _ | refine blk_drew ?_ | refine blk_alloc ?_ _)); refine blk_put (cs := #[.int .i64 t114, .bool t115, .int .i64 t116, .int .i64 t122]) ?_ 3 _ rfl; (with_reducible repeat (first | refine blk_drewN ?_ _ | refine blk_drew ?_ | refine blk_alloc ?_ _)); refine blk_put (cs := #[.int .i64 t114, .bool t115, .int .i64 t121, .int .i64 t122]) ?_ 2 _ rfl; (with_reducible repeat (first | refine blk_drewN ?_ _ | refine blk_drew ?_ | refine blk_alloc ?_ _)); refine blk_put (cs := #[.int .i64 t114, .bool t120, .int .i64 t121, .int .i64 t122]) ?_ 1 _ rfl; (with_reducible repeat (first | refine blk_drewN ?_ _ | refine blk_drew ?_ | refine blk_alloc ?_ _)); refine blk_put (cs := #[.int .i64 t119, .bool t120, .int .i64 t121, .int .i64 t122]) ?_ 0 _ rfl; (with_reducible repeat (first | refine blk_drewN ?_ _ | refine blk_drew ?_ | refine blk_alloc ?_ _)); refine blk_far ?_ NB123_118.out _; (with_reducible repeat (first | refine blk_drewN ?_ _ | refine blk_drew ?_ | refine blk_alloc ?_ _)); refine blk_far ?_ NB123_118.out _; (with_reducible repeat (first | refine blk_drewN ?_ _ | refine blk_drew ?_ | refine blk_alloc ?_ _)); refine blk_far ?_ NB123_118.out _; (with_reducible repeat (first | refine blk_drewN ?_ _ | refine blk_drew ?_ | refine blk_alloc ?_ _)); refine blk_far ?_ NB123_118.out _; (with_reducible repeat (first | refine blk_drewN ?_ _ | refine blk_drew ?_ | refine blk_alloc ?_ _)); refine blk_far ?_ NB123_126.out _; (with_reducible repeat (first | refine blk_drewN ?_ _ | refine blk_drew ?_ | refine blk_alloc ?_ _)); refine blk_far ?_ NB123_126.out _; (with_reducible repeat (first | refine blk_drewN ?_ _ | refine blk_drew ?_ | refine blk_alloc ?_ _)); refine blk_far ?_ NB123_126.out _; (with_reducible repeat (first | refine blk_drewN ?_ _ | refine blk_drew ?_ | refine blk_alloc ?_ _)); refine blk_far ?_ NB123_126.out _; (with_reducible repeat (first | refine blk_drewN ?_ _ | refine blk_drew ?_ | refine blk_alloc ?_ _)); exact BK123.out⟩, ⟨by repeat (first | (with_reducible first | exact HB.out | apply below_alloc | apply pw_below_drewN | apply below_drew1 | refine below_set ?_ GE118.out | refine below_set ?_ GE123.out | refine below_set ?_ GE126.out) | exact HB.out)⟩⟩
                  · replace c57 := Bool.eq_false_iff.mpr c57
                    subst c57
                    have H1 : (spec_FAdd.j2 kj40 t114 t115 t116 t117 t119 t120 t121 t122) = some r := by rw [if_neg (show ¬ (false = true) by decide)] at H; exact H
                    clear H
                    have H := H1
                    clear H1
                    have H' := Aside0.mk H
                    clear H
                    go_wp2
                    go_meet
                    case rel => exact ⟨_, (t114), (t115), (t116), (t117), (t119), (t120), (t121), (t122), H', ⟨by have := HJ4.out; have := HJ40.out; first | omega | exact Nat.le_refl _⟩, ⟨by (with_reducible repeat (first | refine blk_drewN ?_ _ | refine blk_drew ?_ | refine blk_alloc ?_ _)); exact BK118.out⟩, ⟨by (with_reducible repeat (first | refine blk_drewN ?_ _ | refine blk_drew ?_ | refine blk_alloc ?_ _)); exact BK123.out⟩, ⟨by repeat (first | (with_reducible first | exact HB.out | apply below_alloc | apply pw_below_drewN | apply below_drew1 | refine below_set ?_ GE118.out | refine below_set ?_ GE123.out) | exact HB.out)⟩⟩
                case rest =>
                  clear HC56
                  try clear c1
                  try clear c2
                  try clear p2
                  try clear c3
                  try clear c4
                  try clear c5
                  try clear c6
                  try clear c7
                  try clear c11
                  try clear c13
                  try clear c13b0
                  try clear c13b1
                  try clear c14
                  try clear c16
                  try clear c16b0
                  try clear c16b1
                  try clear c17
                  try clear c20
                  try clear c20b0
                  try clear c20b1
                  try clear c21
                  try clear c21b0
                  try clear c21b1
                  try clear c22
                  try clear c25
                  try clear c28
                  try clear c31
                  try clear c32
                  try clear c32b0
                  try clear c32b1
                  try clear c34
                  try clear c36
                  try clear c36b0
                  try clear c36b1
                  try clear c38
                  try clear c42
                  try clear c45
                  try clear c45b0
                  try clear c46
                  try clear c49
                  try clear c49b0
                  try clear c49b1
                  try clear c50
                  try clear c53
                  try clear c54
                  try clear c57
                  try clear c58
                  try clear c61
                  try clear c62
                  try clear hcz12_0
                  try clear hcz12_1
                  try clear hcz12_2
                  try clear hcz12_3
                  try clear hcz15_0
                  try clear hcz15_1
                  try clear hcz15_2
                  try clear hcz15_3
                  try clear hcz18_0
                  try clear hcz18_1
                  try clear hcz18_2
                  try clear hcz18_3
                  try clear hcz19_0
                  try clear hcz19_1
                  try clear hcz19_2
                  try clear hcz19_3
                  try clear hcz23_0
                  try clear hcz23_1
                  try clear hcz23_2
                  try clear hcz23_3
                  try clear hcz24_0
                  try clear hcz24_1
                  try clear hcz24_2
                  try clear hcz24_3
                  try clear hcz26_0
                  try clear hcz26_1
                  try clear hcz26_2
                  try clear hcz26_3
                  try clear hcz27_0
                  try clear hcz27_1
                  try clear hcz27_2
                  try clear hcz27_3
                  try clear hcz29_0
                  try clear hcz29_1
                  try clear hcz29_2
                  try clear hcz29_3
                  try clear hcz30_0
                  try clear hcz30_1
                  try clear hcz30_2
                  try clear hcz30_3
                  try clear hcz35_0
                  try clear hcz35_1
                  try clear hcz35_2
                  try clear hcz35_3
                  try clear hcz39_0
                  try clear hcz39_1
                  try clear hcz39_2
                  try clear hcz39_3
                  try clear hcz40_0
                  try clear hcz40_1
                  try clear hcz40_2
                  try clear hcz40_3
                  try clear hcz43_0
                  try clear hcz43_1
                  try clear hcz43_2
                  try clear hcz43_3
                  try clear hcz44_0
                  try clear hcz44_1
                  try clear hcz44_2
                  try clear hcz44_3
                  try clear hcz47_0
                  try clear hcz47_1
                  try clear hcz47_2
                  try clear hcz47_3
                  try clear hcz48_0
                  try clear hcz48_1
                  try clear hcz48_2
                  try clear hcz48_3
                  try clear hcz51_0
                  try clear hcz51_1
                  try clear hcz51_2
                  try clear hcz51_3
                  try clear hcz52_0
                  try clear hcz52_1
                  try clear hcz52_2
                  try clear hcz52_3
                  try clear hcz54_0
                  try clear hcz54_1
                  try clear hcz54_2
                  try clear hcz54_3
                  try clear hcz55_0
                  try clear hcz55_1
                  try clear hcz55_2
                  try clear hcz55_3
                  try clear hcz59_0
                  try clear hcz59_1
                  try clear hcz59_2
                  try clear hcz59_3
                  try clear hcz63_0
                  try clear hcz63_1
                  try clear hcz63_2
                  try clear hcz63_3
                  try clear hcz64_0
                  try clear hcz64_1
                  try clear hcz64_2
                  try clear hcz64_3
                  try clear hcz65_0
                  try clear hcz65_1
                  try clear hcz65_2
                  try clear hcz65_3
                  try clear hcz8_0
                  try clear hcz8_1
                  try clear hcz8_2
                  try clear hcz8_3
                  try clear hfz12_0
                  try clear hfz12_1
                  try clear hfz12_2
                  try clear hfz12_3
                  try clear hfz15_0
                  try clear hfz15_1
                  try clear hfz15_2
                  try clear hfz15_3
                  try clear hfz18_0
                  try clear hfz18_1
                  try clear hfz18_2
                  try clear hfz18_3
                  try clear hfz19_0
                  try clear hfz19_1
                  try clear hfz19_2
                  try clear hfz19_3
                  try clear hfz23_0
                  try clear hfz23_1
                  try clear hfz23_2
                  try clear hfz23_3
                  try clear hfz24_0
                  try clear hfz24_1
                  try clear hfz24_2
                  try clear hfz24_3
                  try clear hfz26_0
                  try clear hfz26_1
                  try clear hfz26_2
                  try clear hfz26_3
                  try clear hfz27_0
                  try clear hfz27_1
                  try clear hfz27_2
                  try clear hfz27_3
                  try clear hfz29_0
                  try clear hfz29_1
                  try clear hfz29_2
                  try clear hfz29_3
                  try clear hfz30_0
                  try clear hfz30_1
                  try clear hfz30_2
                  try clear hfz30_3
                  try clear hfz35_0
                  try clear hfz35_1
                  try clear hfz35_2
                  try clear hfz35_3
                  try clear hfz39_0
                  try clear hfz39_1
                  try clear hfz39_2
                  try clear hfz39_3
                  try clear hfz40_0
                  try clear hfz40_1
                  try clear hfz40_2
                  try clear hfz40_3
                  try clear hfz43_0
                  try clear hfz43_1
                  try clear hfz43_2
                  try clear hfz43_3
                  try clear hfz44_0
                  try clear hfz44_1
                  try clear hfz44_2
                  try clear hfz44_3
                  try clear hfz47_0
                  try clear hfz47_1
                  try clear hfz47_2
                  try clear hfz47_3
                  try clear hfz48_0
                  try clear hfz48_1
                  try clear hfz48_2
                  try clear hfz48_3
                  try clear hfz51_0
                  try clear hfz51_1
                  try clear hfz51_2
                  try clear hfz51_3
                  try clear hfz52_0
                  try clear hfz52_1
                  try clear hfz52_2
                  try clear hfz52_3
                  try clear hfz54_0
                  try clear hfz54_1
                  try clear hfz54_2
                  try clear hfz54_3
                  try clear hfz55_0
                  try clear hfz55_1
                  try clear hfz55_2
                  try clear hfz55_3
                  try clear hfz59_0
                  try clear hfz59_1
                  try clear hfz59_2
                  try clear hfz59_3
                  try clear hfz63_0
                  try clear hfz63_1
                  try clear hfz63_2
                  try clear hfz63_3
                  try clear hfz64_0
                  try clear hfz64_1
                  try clear hfz64_2
                  try clear hfz64_3
                  try clear hfz65_0
                  try clear hfz65_1
                  try clear hfz65_2
                  try clear hfz65_3
                  try clear hfz8_0
                  try clear hfz8_1
                  try clear hfz8_2
                  try clear hfz8_3
                  try clear p2
                  obtain ⟨kq, x119000_55, x119001_55, x119002_55, x119003_55, x124000_55, x124001_55, x124002_55, x124003_55, HA, HJ55, BK118, BK123, HB⟩ := hcut
                  cases kq with
                  | zero => exact absurd HA.out (by simp [spec_FAdd.j2])
                  | succ kj55 =>
                    have H := HA.out
                    clear HA
                    simp only [spec_FAdd.j2] at H
                    have HC66 := Aside0.mk H
                    clear H
                    have hnb67 := NB118_123.out
                    have hnc67 := NB123_118.out
                    have hcz68_0 : wc.cell? ⟨gb118, 0, none⟩ = some (.int .i64 x119000_55) := (blk_cell BK118.out 0).trans rfl
                    have hcz68_1 : wc.cell? ⟨gb118, 1, none⟩ = some (.bool x119001_55) := (blk_cell BK118.out 1).trans rfl
                    have hcz68_2 : wc.cell? ⟨gb118, 2, none⟩ = some (.int .i64 x119002_55) := (blk_cell BK118.out 2).trans rfl
                    have hcz68_3 : wc.cell? ⟨gb118, 3, none⟩ = some (.int .i64 x119003_55) := (blk_cell BK118.out 3).trans rfl
                    have hfz68_0 := blk_frozen BK118.out 0
                    have hfz68_1 := blk_frozen BK118.out 1
                    have hfz68_2 := blk_frozen BK118.out 2
                    have hfz68_3 := blk_frozen BK118.out 3
                    have hcz69_0 : wc.cell? ⟨gb123, 0, none⟩ = some (.int .i64 x124000_55) := (blk_cell BK123.out 0).trans rfl
                    have hcz69_1 : wc.cell? ⟨gb123, 1, none⟩ = some (.bool x124001_55) := (blk_cell BK123.out 1).trans rfl
                    have hcz69_2 : wc.cell? ⟨gb123, 2, none⟩ = some (.int .i64 x124002_55) := (blk_cell BK123.out 2).trans rfl
                    have hcz69_3 : wc.cell? ⟨gb123, 3, none⟩ = some (.int .i64 x124003_55) := (blk_cell BK123.out 3).trans rfl
                    have hfz69_0 := blk_frozen BK123.out 0
                    have hfz69_1 := blk_frozen BK123.out 1
                    have hfz69_2 := blk_frozen BK123.out 2
                    have hfz69_3 := blk_frozen BK123.out 3
                    go_upto_if 85 with (fail)
                    go_cut [10, 11] (fun v10 v11 wc => ∃ (kq : Nat) (x10_65 : Int) (x11_65 : Bool), v10 = .int .i64 x10_65 ∧ v11 = .bool x11_65 ∧ Aside0 (spec_FAdd.j4 kq (wrap64 (x119002_55 * 1073741824)) x10_65 x11_65 x119000_55 x119001_55 x119002_55 x119003_55 x124000_55 x124001_55 x124002_55 x124003_55 = some r) ∧ Aside0 (kq ≤ kj55) ∧ Aside0 (wc.heap[gb118]? = some (.cells #[.int .i64 x119000_55, .bool x119001_55, .int .i64 x119002_55, .int .i64 x119003_55] 95 (0, 0))) ∧ Aside0 (wc.heap[gb123]? = some (.cells #[.int .i64 x124000_55, .bool x124001_55, .int .i64 x124002_55, .int .i64 x124003_55] 95 (0, 0))) ∧ Aside0 (Below w.heap.size w wc))
                    case first =>
                      have H := HC66.out
                      clear HC66
                      by_cases c70 : (wrap64 (x119003_55 - x124003_55)) ≤ 30
                      · rw [if_pos c70] at H
                        have c70b0 : decide ((wrap64 (x119003_55 - x124003_55)) ≤ 30) = true := decide_eq_true c70
                        clear c70
                        (first | rw [c70b0] | (simp only [i64_w, i32_w]; rw [c70b0]) | skip)
                        obtain ⟨ji71, hji71⟩ : ∃ j_ : Int, (IntKind.u64.wrap (wrap64 (30 - (wrap64 (x119003_55 - x124003_55))))) = j_ := ⟨_, rfl⟩
                        replace H : (if 0 ≤ (ji71) then (spec_FAdd.j4 kj55 (wrap64 (x119002_55 * 1073741824)) (shl .i64 x124002_55 (ji71)) false x119000_55 x119001_55 x119002_55 x119003_55 x124000_55 x124001_55 x124002_55 x124003_55) else (none)) = some r := by first | (rw [hji71] at H; exact H) | (simp only [hji71] at H ⊢; exact H)
                        by_cases c72 : 0 ≤ (ji71)
                        · rw [if_pos c72] at H
                          have c72b0 := eq_true c72
                          have c72b1 : decide (0 ≤ (ji71)) = true := decide_eq_true c72
                          clear c72
                          obtain ⟨ji73, hji73⟩ : ∃ j_ : Int, (shl .i64 x124002_55 (ji71)) = j_ := ⟨_, rfl⟩
                          replace H : (spec_FAdd.j4 kj55 (wrap64 (x119002_55 * 1073741824)) ji73 false x119000_55 x119001_55 x119002_55 x119003_55 x124000_55 x124001_55 x124002_55 x124003_55) = some r := by first | (rw [hji73] at H; exact H) | (simp only [hji73] at H ⊢; exact H)
                          have hji73_ : (IntKind.i64.wrap (x124002_55 * 2 ^ min (ji71).toNat 64)) = ji73 := hji73
                          have hji73z : (ji71) ≤ 64 → (IntKind.i64.wrap (x124002_55 * 2 ^ (ji71).toNat)) = ji73 := shl_small hji73
                          have hji73y : (wrap64 (x124002_55 * 2 ^ min (ji71).toNat 64)) = ji73 := (i64_w _).symm.trans hji73_
                          have hji73x : (ji71) ≤ 64 → (wrap64 (x124002_55 * 2 ^ (ji71).toNat)) = ji73 := fun h_ => (i64_w _).symm.trans (hji73z h_)
                          have H' := Aside0.mk H
                          clear H
                          have hnb74 := NB123_118.out
                          have hnc74 := NB118_123.out
                          have hcz75_0 : wc.cell? ⟨gb123, 0, none⟩ = some (.int .i64 x124000_55) := (blk_cell BK123.out 0).trans rfl
                          have hcz75_1 : wc.cell? ⟨gb123, 1, none⟩ = some (.bool x124001_55) := (blk_cell BK123.out 1).trans rfl
                          have hcz75_2 : wc.cell? ⟨gb123, 2, none⟩ = some (.int .i64 x124002_55) := (blk_cell BK123.out 2).trans rfl
                          have hcz75_3 : wc.cell? ⟨gb123, 3, none⟩ = some (.int .i64 x124003_55) := (blk_cell BK123.out 3).trans rfl
                          have hfz75_0 := blk_frozen BK123.out 0
                          have hfz75_1 := blk_frozen BK123.out 1
                          have hfz75_2 := blk_frozen BK123.out 2
                          have hfz75_3 := blk_frozen BK123.out 3
                          go_wp2
                          go_meet
                          case rel => exact ⟨_, (ji73), (false), (by first | rfl | (simp; done) | (simp only [← hji73] <;> (first | rfl | simp)) | (simp [*]; done)), (by first | rfl | (simp; done) | (simp [*]; done)), H', ⟨by have := HJ4.out; have := HJ40.out; have := HJ55.out; first | omega | exact Nat.le_refl _⟩, ⟨by (with_reducible repeat (first | refine blk_drewN ?_ _ | refine blk_drew ?_ | refine blk_alloc ?_ _)); exact BK118.out⟩, ⟨by (with_reducible repeat (first | refine blk_drewN ?_ _ | refine blk_drew ?_ | refine blk_alloc ?_ _)); exact BK123.out⟩, ⟨by repeat (first | (with_reducible first | exact HB.out | apply below_alloc | apply pw_below_drewN | apply below_drew1 | refine below_set ?_ GE118.out | refine below_set ?_ GE123.out) | exact HB.out)⟩⟩
                        · rw [if_neg c72] at H
                          exact absurd H (by simp)
                      · rw [if_neg c70] at H
                        have c70b0 : decide ((wrap64 (x119003_55 - x124003_55)) ≤ 30) = false := decide_eq_false c70
                        clear c70
                        (first | rw [c70b0] | (simp only [i64_w, i32_w]; rw [c70b0]) | skip)
                        have H' := Aside0.mk H
                        clear H
                        have hnb76 := NB123_118.out
                        have hnc76 := NB118_123.out
                        have hcz77_0 : wc.cell? ⟨gb123, 0, none⟩ = some (.int .i64 x124000_55) := (blk_cell BK123.out 0).trans rfl
                        have hcz77_1 : wc.cell? ⟨gb123, 1, none⟩ = some (.bool x124001_55) := (blk_cell BK123.out 1).trans rfl
                        have hcz77_2 : wc.cell? ⟨gb123, 2, none⟩ = some (.int .i64 x124002_55) := (blk_cell BK123.out 2).trans rfl
                        have hcz77_3 : wc.cell? ⟨gb123, 3, none⟩ = some (.int .i64 x124003_55) := (blk_cell BK123.out 3).trans rfl
                        have hfz77_0 := blk_frozen BK123.out 0
                        have hfz77_1 := blk_frozen BK123.out 1
                        have hfz77_2 := blk_frozen BK123.out 2
                        have hfz77_3 := blk_frozen BK123.out 3
                        go_wp2
                        go_loopg [10, 11, 12] kj55 (fun kq v10 v11 v12 w' => ∃ (x10_4 : Int) (x11_4 : Bool) (x12_4 : Int), v10 = .int .i64 x10_4 ∧ v11 = .bool x11_4 ∧ v12 = .int .i64 x12_4 ∧ Aside0 (spec_FAdd.l0 kq (wrap64 (x119002_55 * 1073741824)) (wrap64 (x119003_55 - x124003_55)) x10_4 x11_4 x12_4 x119000_55 x119001_55 x119002_55 x119003_55 x124000_55 x124001_55 x124002_55 x124003_55 = some r) ∧ Aside0 (kq ≤ kj55) ∧ Aside0 (w'.heap[gb118]? = some (.cells #[.int .i64 x119000_55, .bool x119001_55, .int .i64 x119002_55, .int .i64 x119003_55] 95 (0, 0))) ∧ Aside0 (w'.heap[gb123]? = some (.cells #[.int .i64 x124000_55, .bool x124001_55, .int .i64 x124002_55, .int .i64 x124003_55] 95 (0, 0))) ∧ Aside0 (Below w.heap.size w w'))
                        case atStart => exact ⟨(x124002_55), (false), (30), (by first | rfl | (simp; done) | (simp [*]; done)), (by first | rfl | (simp; done) | (simp [*]; done)), (by first | rfl | (simp; done) | (simp [*]; done)), H', ⟨Nat.le_refl _⟩, ⟨by (with_reducible repeat (first | refine blk_drewN ?_ _ | refine blk_drew ?_ | refine blk_alloc ?_ _)); exact BK118.out⟩, ⟨by (with_reducible repeat (first | refine blk_drewN ?_ _ | refine blk_drew ?_ | refine blk_alloc ?_ _)); exact BK123.out⟩, ⟨by repeat (first | (with_reducible first | exact HB.out | apply below_alloc | apply pw_below_drewN | apply below_drew1 | refine below_set ?_ GE118.out | refine below_set ?_ GE123.out) | exact HB.out)⟩⟩
                        case round =>
                          clear H'
                          try clear c1
                          try clear c2
                          try clear p2
                          try clear c3
                          try clear c4
                          try clear c5
                          try clear c6
                          try clear p6
                          try clear c7
                          try clear c11
                          try clear c13
                          try clear c13b0
                          try clear c13b1
                          try clear c14
                          try clear c16
                          try clear c16b0
                          try clear c16b1
                          try clear c17
                          try clear c20
                          try clear c20b0
                          try clear c20b1
                          try clear c21
                          try clear c21b0
                          try clear c21b1
                          try clear c22
                          try clear c25
                          try clear c28
                          try clear c31
                          try clear c32
                          try clear c32b0
                          try clear c32b1
                          try clear c34
                          try clear c36
                          try clear c36b0
                          try clear c36b1
                          try clear c38
                          try clear c42
                          try clear c45
                          try clear c45b0
                          try clear c46
                          try clear c49
                          try clear c49b0
                          try clear c49b1
                          try clear c50
                          try clear c53
                          try clear c54
                          try clear c57
                          try clear c58
                          try clear c61
                          try clear c62
                          try clear p64
                          try clear c67
                          try clear c70
                          try clear c70b0
                          try clear c72
                          try clear c72b0
                          try clear c72b1
                          try clear c74
                          try clear c76
                          try clear hcz12_0
                          try clear hcz12_1
                          try clear hcz12_2
                          try clear hcz12_3
                          try clear hcz15_0
                          try clear hcz15_1
                          try clear hcz15_2
                          try clear hcz15_3
                          try clear hcz18_0
                          try clear hcz18_1
                          try clear hcz18_2
                          try clear hcz18_3
                          try clear hcz19_0
                          try clear hcz19_1
                          try clear hcz19_2
                          try clear hcz19_3
                          try clear hcz23_0
                          try clear hcz23_1
                          try clear hcz23_2
                          try clear hcz23_3
                          try clear hcz24_0
                          try clear hcz24_1
                          try clear hcz24_2
                          try clear hcz24_3
                          try clear hcz26_0
                          try clear hcz26_1
                          try clear hcz26_2
                          try clear hcz26_3
                          try clear hcz27_0
                          try clear hcz27_1
                          try clear hcz27_2
                          try clear hcz27_3
                          try clear hcz29_0
                          try clear hcz29_1
                          try clear hcz29_2
                          try clear hcz29_3
                          try clear hcz30_0
                          try clear hcz30_1
                          try clear hcz30_2
                          try clear hcz30_3
                          try clear hcz35_0
                          try clear hcz35_1
                          try clear hcz35_2
                          try clear hcz35_3
                          try clear hcz39_0
                          try clear hcz39_1
                          try clear hcz39_2
                          try clear hcz39_3
                          try clear hcz40_0
                          try clear hcz40_1
                          try clear hcz40_2
                          try clear hcz40_3
                          try clear hcz43_0
                          try clear hcz43_1
                          try clear hcz43_2
                          try clear hcz43_3
                          try clear hcz44_0
                          try clear hcz44_1
                          try clear hcz44_2
                          try clear hcz44_3
                          try clear hcz47_0
                          try clear hcz47_1
                          try clear hcz47_2
                          try clear hcz47_3
                          try clear hcz48_0
                          try clear hcz48_1
                          try clear hcz48_2
                          try clear hcz48_3
                          try clear hcz51_0
                          try clear hcz51_1
                          try clear hcz51_2
                          try clear hcz51_3
                          try clear hcz52_0
                          try clear hcz52_1
                          try clear hcz52_2
                          try clear hcz52_3
                          try clear hcz54_0
                          try clear hcz54_1
                          try clear hcz54_2
                          try clear hcz54_3
                          try clear hcz55_0
                          try clear hcz55_1
                          try clear hcz55_2
                          try clear hcz55_3
                          try clear hcz59_0
                          try clear hcz59_1
                          try clear hcz59_2
                          try clear hcz59_3
                          try clear hcz63_0
                          try clear hcz63_1
                          try clear hcz63_2
                          try clear hcz63_3
                          try clear hcz64_0
                          try clear hcz64_1
                          try clear hcz64_2
                          try clear hcz64_3
                          try clear hcz65_0
                          try clear hcz65_1
                          try clear hcz65_2
                          try clear hcz65_3
                          try clear hcz68_0
                          try clear hcz68_1
                          try clear hcz68_2
                          try clear hcz68_3
                          try clear hcz69_0
                          try clear hcz69_1
                          try clear hcz69_2
                          try clear hcz69_3
                          try clear hcz75_0
                          try clear hcz75_1
                          try clear hcz75_2
                          try clear hcz75_3
                          try clear hcz77_0
                          try clear hcz77_1
                          try clear hcz77_2
                          try clear hcz77_3
                          try clear hcz8_0
                          try clear hcz8_1
                          try clear hcz8_2
                          try clear hcz8_3
                          try clear hfz12_0
                          try clear hfz12_1
                          try clear hfz12_2
                          try clear hfz12_3
                          try clear hfz15_0
                          try clear hfz15_1
                          try clear hfz15_2
                          try clear hfz15_3
                          try clear hfz18_0
                          try clear hfz18_1
                          try clear hfz18_2
                          try clear hfz18_3
                          try clear hfz19_0
                          try clear hfz19_1
                          try clear hfz19_2
                          try clear hfz19_3
                          try clear hfz23_0
                          try clear hfz23_1
                          try clear hfz23_2
                          try clear hfz23_3
                          try clear hfz24_0
                          try clear hfz24_1
                          try clear hfz24_2
                          try clear hfz24_3
                          try clear hfz26_0
                          try clear hfz26_1
                          try clear hfz26_2
                          try clear hfz26_3
                          try clear hfz27_0
                          try clear hfz27_1
                          try clear hfz27_2
                          try clear hfz27_3
                          try clear hfz29_0
                          try clear hfz29_1
                          try clear hfz29_2
                          try clear hfz29_3
                          try clear hfz30_0
                          try clear hfz30_1
                          try clear hfz30_2
                          try clear hfz30_3
                          try clear hfz35_0
                          try clear hfz35_1
                          try clear hfz35_2
                          try clear hfz35_3
                          try clear hfz39_0
                          try clear hfz39_1
                          try clear hfz39_2
                          try clear hfz39_3
                          try clear hfz40_0
                          try clear hfz40_1
                          try clear hfz40_2
                          try clear hfz40_3
                          try clear hfz43_0
                          try clear hfz43_1
                          try clear hfz43_2
                          try clear hfz43_3
                          try clear hfz44_0
                          try clear hfz44_1
                          try clear hfz44_2
                          try clear hfz44_3
                          try clear hfz47_0
                          try clear hfz47_1
                          try clear hfz47_2
                          try clear hfz47_3
                          try clear hfz48_0
                          try clear hfz48_1
                          try clear hfz48_2
                          try clear hfz48_3
                          try clear hfz51_0
                          try clear hfz51_1
                          try clear hfz51_2
                          try clear hfz51_3
                          try clear hfz52_0
                          try clear hfz52_1
                          try clear hfz52_2
                          try clear hfz52_3
                          try clear hfz54_0
                          try clear hfz54_1
                          try clear hfz54_2
                          try clear hfz54_3
                          try clear hfz55_0
                          try clear hfz55_1
                          try clear hfz55_2
                          try clear hfz55_3
                          try clear hfz59_0
                          try clear hfz59_1
                          try clear hfz59_2
                          try clear hfz59_3
                          try clear hfz63_0
                          try clear hfz63_1
                          try clear hfz63_2
                          try clear hfz63_3
                          try clear hfz64_0
                          try clear hfz64_1
                          try clear hfz64_2
                          try clear hfz64_3
                          try clear hfz65_0
                          try clear hfz65_1
                          try clear hfz65_2
                          try clear hfz65_3
                          try clear hfz68_0
                          try clear hfz68_1
                          try clear hfz68_2
                          try clear hfz68_3
                          try clear hfz69_0
                          try clear hfz69_1
                          try clear hfz69_2
                          try clear hfz69_3
                          try clear hfz75_0
                          try clear hfz75_1
                          try clear hfz75_2
                          try clear hfz75_3
                          try clear hfz77_0
                          try clear hfz77_1
                          try clear hfz77_2
                          try clear hfz77_3
                          try clear hfz8_0
                          try clear hfz8_1
                          try clear hfz8_2
                          try clear hfz8_3
                          try clear p2
                          obtain ⟨x10_4, x11_4, x12_4, rfl, rfl, rfl, HA, HK4, BK118, BK123, HB⟩ := hrel
                          cases gk with
                          | zero => exact absurd HA.out (by simp [spec_FAdd.l0])
                          | succ k4 =>
                            have H := HA.out
                            clear HA
                            simp only [spec_FAdd.l0] at H
                            by_cases c78 : x12_4 < (wrap64 (x119003_55 - x124003_55))
                            · rw [if_pos c78] at H
                              have c78b0 : decide (x12_4 < (wrap64 (x119003_55 - x124003_55))) = true := decide_eq_true c78
                              clear c78
                              by_cases c79 : x11_4 = true
                              · subst c79
                                have H1 : (spec_FAdd.l0 k4 (wrap64 (x119002_55 * 1073741824)) (wrap64 (x119003_55 - x124003_55)) (x10_4 / 2) true (wrap64 (x12_4 + 1)) x119000_55 x119001_55 x119002_55 x119003_55 x124000_55 x124001_55 x124002_55 x124003_55) = some r := by rw [if_pos rfl] at H; exact H
                                clear H
                                have H := H1
                                clear H1
                                have H' := Aside0.mk H
                                clear H
                                go_wp2
                                go_roundg k4
                                case measure => have := HJ4.out; have := HJ40.out; have := HJ55.out; have := HK4.out; omega
                                case rel => exact ⟨(x10_4 / 2), (true), (wrap64 (x12_4 + 1)), (by first | rfl | (simp; done) | (simp [*]; done)), (by first | rfl | (simp; done) | (simp [*]; done)), (by first | rfl | (simp; done) | (simp [*]; done)), H', ⟨by have := HJ4.out; have := HJ40.out; have := HJ55.out; have := HK4.out; omega⟩, ⟨by (with_reducible repeat (first | refine blk_drewN ?_ _ | refine blk_drew ?_ | refine blk_alloc ?_ _)); exact BK118.out⟩, ⟨by (with_reducible repeat (first | refine blk_drewN ?_ _ | refine blk_drew ?_ | refine blk_alloc ?_ _)); exact BK123.out⟩, ⟨by repeat (first | (with_reducible first | exact HB.out | apply below_alloc | apply pw_below_drewN | apply below_drew1 | refine below_set ?_ GE118.out | refine below_set ?_ GE123.out) | exact HB.out)⟩⟩
                              · replace c79 := Bool.eq_false_iff.mpr c79
                                subst c79
                                have H1 : (spec_FAdd.l0 k4 (wrap64 (x119002_55 * 1073741824)) (wrap64 (x119003_55 - x124003_55)) (x10_4 / 2) ((Go.bits .and .i64 x10_4 1) == 1) (wrap64 (x12_4 + 1)) x119000_55 x119001_55 x119002_55 x119003_55 x124000_55 x124001_55 x124002_55 x124003_55) = some r := by rw [if_neg (show ¬ (false = true) by decide)] at H; exact H
                                clear H
                                have H := H1
                                clear H1
                                have H' := Aside0.mk H
                                clear H
                                go_wp2
                                go_roundg k4
                                case measure => have := HJ4.out; have := HJ40.out; have := HJ55.out; have := HK4.out; omega
                                case rel => exact ⟨(x10_4 / 2), (((Go.bits .and .i64 x10_4 1) == 1)), (wrap64 (x12_4 + 1)), (by first | rfl | (simp; done) | (simp [*]; done)), (by first | rfl | (simp; done) | (simp [*]; done)), (by first | rfl | (simp; done) | (simp [*]; done)), H', ⟨by have := HJ4.out; have := HJ40.out; have := HJ55.out; have := HK4.out; omega⟩, ⟨by (with_reducible repeat (first | refine blk_drewN ?_ _ | refine blk_drew ?_ | refine blk_alloc ?_ _)); exact BK118.out⟩, ⟨by (with_reducible repeat (first | refine blk_drewN ?_ _ | refine blk_drew ?_ | refine blk_alloc ?_ _)); exact BK123.out⟩, ⟨by repeat (first | (with_reducible first | exact HB.out | apply below_alloc | apply pw_below_drewN | apply below_drew1 | refine below_set ?_ GE118.out | refine below_set ?_ GE123.out) | exact HB.out)⟩⟩
                            · rw [if_neg c78] at H
                              have c78b0 : decide (x12_4 < (wrap64 (x119003_55 - x124003_55))) = false := decide_eq_false c78
                              clear c78
                              have H' := Aside0.mk H
                              clear H
                              go_wp2
                              go_meet
                              case rel => exact ⟨_, (x10_4), (x11_4), (by first | rfl | (simp; done) | (simp [*]; done)), (by first | rfl | (simp; done) | (simp [*]; done)), H', ⟨by have := HJ4.out; have := HJ40.out; have := HJ55.out; have := HK4.out; first | omega | exact Nat.le_refl _⟩, ⟨by (with_reducible repeat (first | refine blk_drewN ?_ _ | refine blk_drew ?_ | refine blk_alloc ?_ _)); exact BK118.out⟩, ⟨by (with_reducible repeat (first | refine blk_drewN ?_ _ | refine blk_drew ?_ | refine blk_alloc ?_ _)); exact BK123.out⟩, ⟨by repeat (first | (with_reducible first | exact HB.out | apply below_alloc | apply pw_below_drewN | apply below_drew1 | refine below_set ?_ GE118.out | refine below_set ?_ GE123.out) | exact HB.out)⟩⟩
                    case rest =>
                      clear HC66
                      try clear c1
                      try clear c2
                      try clear p2
                      try clear c3
                      try clear c4
                      try clear c5
                      try clear c6
                      try clear p6
                      try clear c7
                      try clear c11
                      try clear c13
                      try clear c13b0
                      try clear c13b1
                      try clear c14
                      try clear c16
                      try clear c16b0
                      try clear c16b1
                      try clear c17
                      try clear c20
                      try clear c20b0
                      try clear c20b1
                      try clear c21
                      try clear c21b0
                      try clear c21b1
                      try clear c22
                      try clear c25
                      try clear c28
                      try clear c31
                      try clear c32
                      try clear c32b0
                      try clear c32b1
                      try clear c34
                      try clear c36
                      try clear c36b0
                      try clear c36b1
                      try clear c38
                      try clear c42
                      try clear c45
                      try clear c45b0
                      try clear c46
                      try clear c49
                      try clear c49b0
                      try clear c49b1
                      try clear c50
                      try clear c53
                      try clear c54
                      try clear c57
                      try clear c58
                      try clear c61
                      try clear c62
                      try clear p64
                      try clear c67
                      try clear c70
                      try clear c70b0
                      try clear c72
                      try clear c72b0
                      try clear c72b1
                      try clear c74
                      try clear c76
                      try clear c78
                      try clear c78b0
                      try clear c79
                      try clear hcz12_0
                      try clear hcz12_1
                      try clear hcz12_2
                      try clear hcz12_3
                      try clear hcz15_0
                      try clear hcz15_1
                      try clear hcz15_2
                      try clear hcz15_3
                      try clear hcz18_0
                      try clear hcz18_1
                      try clear hcz18_2
                      try clear hcz18_3
                      try clear hcz19_0
                      try clear hcz19_1
                      try clear hcz19_2
                      try clear hcz19_3
                      try clear hcz23_0
                      try clear hcz23_1
                      try clear hcz23_2
                      try clear hcz23_3
                      try clear hcz24_0
                      try clear hcz24_1
                      try clear hcz24_2
                      try clear hcz24_3
                      try clear hcz26_0
                      try clear hcz26_1
                      try clear hcz26_2
                      try clear hcz26_3
                      try clear hcz27_0
                      try clear hcz27_1
                      try clear hcz27_2
                      try clear hcz27_3
                      try clear hcz29_0
                      try clear hcz29_1
                      try clear hcz29_2
                      try clear hcz29_3
                      try clear hcz30_0
                      try clear hcz30_1
                      try clear hcz30_2
                      try clear hcz30_3
                      try clear hcz35_0
                      try clear hcz35_1
                      try clear hcz35_2
                      try clear hcz35_3
                      try clear hcz39_0
                      try clear hcz39_1
                      try clear hcz39_2
                      try clear hcz39_3
                      try clear hcz40_0
                      try clear hcz40_1
                      try clear hcz40_2
                      try clear hcz40_3
                      try clear hcz43_0
                      try clear hcz43_1
                      try clear hcz43_2
                      try clear hcz43_3
                      try clear hcz44_0
                      try clear hcz44_1
                      try clear hcz44_2
                      try clear hcz44_3
                      try clear hcz47_0
                      try clear hcz47_1
                      try clear hcz47_2
                      try clear hcz47_3
                      try clear hcz48_0
                      try clear hcz48_1
                      try clear hcz48_2
                      try clear hcz48_3
                      try clear hcz51_0
                      try clear hcz51_1
                      try clear hcz51_2
                      try clear hcz51_3
                      try clear hcz52_0
                      try clear hcz52_1
                      try clear hcz52_2
                      try clear hcz52_3
                      try clear hcz54_0
                      try clear hcz54_1
                      try clear hcz54_2
                      try clear hcz54_3
                      try clear hcz55_0
                      try clear hcz55_1
                      try clear hcz55_2
                      try clear hcz55_3
                      try clear hcz59_0
                      try clear hcz59_1
                      try clear hcz59_2
                      try clear hcz59_3
                      try clear hcz63_0
                      try clear hcz63_1
                      try clear hcz63_2
                      try clear hcz63_3
                      try clear hcz64_0
                      try clear hcz64_1
                      try clear hcz64_2
                      try clear hcz64_3
                      try clear hcz65_0
                      try clear hcz65_1
                      try clear hcz65_2
                      try clear hcz65_3
                      try clear hcz68_0
                      try clear hcz68_1
                      try clear hcz68_2
                      try clear hcz68_3
                      try clear hcz69_0
                      try clear hcz69_1
                      try clear hcz69_2
                      try clear hcz69_3
                      try clear hcz75_0
                      try clear hcz75_1
                      try clear hcz75_2
                      try clear hcz75_3
                      try clear hcz77_0
                      try clear hcz77_1
                      try clear hcz77_2
                      try clear hcz77_3
                      try clear hcz8_0
                      try clear hcz8_1
                      try clear hcz8_2
                      try clear hcz8_3
                      try clear hfz12_0
                      try clear hfz12_1
                      try clear hfz12_2
                      try clear hfz12_3
                      try clear hfz15_0
                      try clear hfz15_1
                      try clear hfz15_2
                      try clear hfz15_3
                      try clear hfz18_0
                      try clear hfz18_1
                      try clear hfz18_2
                      try clear hfz18_3
                      try clear hfz19_0
                      try clear hfz19_1
                      try clear hfz19_2
                      try clear hfz19_3
                      try clear hfz23_0
                      try clear hfz23_1
                      try clear hfz23_2
                      try clear hfz23_3
                      try clear hfz24_0
                      try clear hfz24_1
                      try clear hfz24_2
                      try clear hfz24_3
                      try clear hfz26_0
                      try clear hfz26_1
                      try clear hfz26_2
                      try clear hfz26_3
                      try clear hfz27_0
                      try clear hfz27_1
                      try clear hfz27_2
                      try clear hfz27_3
                      try clear hfz29_0
                      try clear hfz29_1
                      try clear hfz29_2
                      try clear hfz29_3
                      try clear hfz30_0
                      try clear hfz30_1
                      try clear hfz30_2
                      try clear hfz30_3
                      try clear hfz35_0
                      try clear hfz35_1
                      try clear hfz35_2
                      try clear hfz35_3
                      try clear hfz39_0
                      try clear hfz39_1
                      try clear hfz39_2
                      try clear hfz39_3
                      try clear hfz40_0
                      try clear hfz40_1
                      try clear hfz40_2
                      try clear hfz40_3
                      try clear hfz43_0
                      try clear hfz43_1
                      try clear hfz43_2
                      try clear hfz43_3
                      try clear hfz44_0
                      try clear hfz44_1
                      try clear hfz44_2
                      try clear hfz44_3
                      try clear hfz47_0
                      try clear hfz47_1
                      try clear hfz47_2
                      try clear hfz47_3
                      try clear hfz48_0
                      try clear hfz48_1
                      try clear hfz48_2
                      try clear hfz48_3
                      try clear hfz51_0
                      try clear hfz51_1
                      try clear hfz51_2
                      try clear hfz51_3
                      try clear hfz52_0
                      try clear hfz52_1
                      try clear hfz52_2
                      try clear hfz52_3
                      try clear hfz54_0
                      try clear hfz54_1
                      try clear hfz54_2
                      try clear hfz54_3
                      try clear hfz55_0
                      try clear hfz55_1
                      try clear hfz55_2
                      try clear hfz55_3
                      try clear hfz59_0
                      try clear hfz59_1
                      try clear hfz59_2
                      try clear hfz59_3
                      try clear hfz63_0
                      try clear hfz63_1
                      try clear hfz63_2
                      try clear hfz63_3
                      try clear hfz64_0
                      try clear hfz64_1
                      try clear hfz64_2
                      try clear hfz64_3
                      try clear hfz65_0
                      try clear hfz65_1
                      try clear hfz65_2
                      try clear hfz65_3
                      try clear hfz68_0
                      try clear hfz68_1
                      try clear hfz68_2
                      try clear hfz68_3
                      try clear hfz69_0
                      try clear hfz69_1
                      try clear hfz69_2
                      try clear hfz69_3
                      try clear hfz75_0
                      try clear hfz75_1
                      try clear hfz75_2
                      try clear hfz75_3
                      try clear hfz77_0
                      try clear hfz77_1
                      try clear hfz77_2
                      try clear hfz77_3
                      try clear hfz8_0
                      try clear hfz8_1
                      try clear hfz8_2
                      try clear hfz8_3
                      try clear p2
                      try clear p6
                      try clear p64
                      obtain ⟨kq, x10_65, x11_65, rfl, rfl, HA, HJ65, BK118, BK123, HB⟩ := hcut
                      (try clear hji71x); (try clear hji71y); (try clear hji71v); (try clear hji71u); (try clear hji71z); (try clear hji71_); (try clear hji71)
                      (try clear hji73x); (try clear hji73y); (try clear hji73v); (try clear hji73u); (try clear hji73z); (try clear hji73_); (try clear hji73)
                      cases kq with
                      | zero => exact absurd HA.out (by simp [spec_FAdd.j4])
                      | succ kj65 =>
                        have H := HA.out
                        clear HA
                        simp only [spec_FAdd.j4] at H
                        by_cases c80 : (x119001_55 == x124001_55) = true
                        · rw [if_pos c80] at H
                          have c80b0 : (x119001_55 == x124001_55) = true := c80
                          (try (have c80b1 : decide (x119001_55 = x124001_55) = true := by simpa using c80))
                          (try (have c80b2 : (x119001_55 == x124001_55) = true := by simpa using c80))
                          clear c80
                          replace H := Option.bind_eq_some_iff.mp H
                          obtain ⟨t127, A810, H⟩ := H
                          replace H : (some t127) = some r := H
                          have A81 := Aside0.mk A810
                          clear A810
                          obtain rfl := Option.some.inj H
                          have hnb82 := NB118_123.out
                          have hnc82 := NB123_118.out
                          have hcz83_0 : wc.cell? ⟨gb118, 0, none⟩ = some (.int .i64 x119000_55) := (blk_cell BK118.out 0).trans rfl
                          have hcz83_1 : wc.cell? ⟨gb118, 1, none⟩ = some (.bool x119001_55) := (blk_cell BK118.out 1).trans rfl
                          have hcz83_2 : wc.cell? ⟨gb118, 2, none⟩ = some (.int .i64 x119002_55) := (blk_cell BK118.out 2).trans rfl
                          have hcz83_3 : wc.cell? ⟨gb118, 3, none⟩ = some (.int .i64 x119003_55) := (blk_cell BK118.out 3).trans rfl
                          have hfz83_0 := blk_frozen BK118.out 0
                          have hfz83_1 := blk_frozen BK118.out 1
                          have hfz83_2 := blk_frozen BK118.out 2
                          have hfz83_3 := blk_frozen BK118.out 3
                          have hcz84_0 : wc.cell? ⟨gb123, 0, none⟩ = some (.int .i64 x124000_55) := (blk_cell BK123.out 0).trans rfl
                          have hcz84_1 : wc.cell? ⟨gb123, 1, none⟩ = some (.bool x124001_55) := (blk_cell BK123.out 1).trans rfl
                          have hcz84_2 : wc.cell? ⟨gb123, 2, none⟩ = some (.int .i64 x124002_55) := (blk_cell BK123.out 2).trans rfl
                          have hcz84_3 : wc.cell? ⟨gb123, 3, none⟩ = some (.int .i64 x124003_55) := (blk_cell BK123.out 3).trans rfl
                          have hfz84_0 := blk_frozen BK123.out 0
                          have hfz84_1 := blk_frozen BK123.out 1
                          have hfz84_2 := blk_frozen BK123.out 2
                          have hfz84_3 := blk_frozen BK123.out 3
                          go_wp2_with (first | ((with_reducible refine gate_callee (f := 80) rfl ?_); refine goesL_ (some 121) rfl rfl Try.func80 (by kernel_rfl) rfl #[.bool x119001_55, .int .i64 (wrap64 ((wrap64 (x119002_55 * 1073741824)) + x10_65)), .int .i64 (wrap64 (x119003_55 - 30)), .bool x11_65] rfl (by (try simp only [List.map_toArray, List.map_cons, List.map_nil]); first | done | rfl | (simp only [List.length_drop, List.length_take]; rfl)) ?_; (with_reducible refine (spec_l2Put.calls kj65 x119001_55 (wrap64 ((wrap64 (x119002_55 * 1073741824)) + x10_65)) (wrap64 (x119003_55 - 30)) x11_65 t127 _ A81.out).mono ?_); rintro e w' ⟨rfl, ⟨nd, rfl⟩⟩; refine ⟨_, rfl, ?_⟩))
                          go_ret
                          exact ⟨by first | rfl | (simp [errW_none, errW_some] <;> rfl) | (simp [*, errW_none, errW_some] <;> rfl), by repeat (first | (with_reducible first | exact HB.out | apply below_alloc | apply pw_below_drewN | apply below_drew1 | refine below_set ?_ GE118.out | refine below_set ?_ GE123.out) | exact HB.out)⟩
                        · rw [if_neg c80] at H
                          have c80b0 : (x119001_55 == x124001_55) = false := by simpa using c80
                          (try (have c80b1 : decide (x119001_55 = x124001_55) = false := by simpa using c80))
                          (try (have c80b2 : (x119001_55 == x124001_55) = false := by simpa using c80))
                          (try (have c80b3 : ¬ (x119001_55 = x124001_55) := by simpa using c80))
                          clear c80
                          have HC85 := Aside0.mk H
                          clear H
                          have hnb86 := NB118_123.out
                          have hnc86 := NB123_118.out
                          have hcz87_0 : wc.cell? ⟨gb118, 0, none⟩ = some (.int .i64 x119000_55) := (blk_cell BK118.out 0).trans rfl
                          have hcz87_1 : wc.cell? ⟨gb118, 1, none⟩ = some (.bool x119001_55) := (blk_cell BK118.out 1).trans rfl
                          have hcz87_2 : wc.cell? ⟨gb118, 2, none⟩ = some (.int .i64 x119002_55) := (blk_cell BK118.out 2).trans rfl
                          have hcz87_3 : wc.cell? ⟨gb118, 3, none⟩ = some (.int .i64 x119003_55) := (blk_cell BK118.out 3).trans rfl
                          have hfz87_0 := blk_frozen BK118.out 0
                          have hfz87_1 := blk_frozen BK118.out 1
                          have hfz87_2 := blk_frozen BK118.out 2
                          have hfz87_3 := blk_frozen BK118.out 3
                          have hcz88_0 : wc.cell? ⟨gb123, 0, none⟩ = some (.int .i64 x124000_55) := (blk_cell BK123.out 0).trans rfl
                          have hcz88_1 : wc.cell? ⟨gb123, 1, none⟩ = some (.bool x124001_55) := (blk_cell BK123.out 1).trans rfl
                          have hcz88_2 : wc.cell? ⟨gb123, 2, none⟩ = some (.int .i64 x124002_55) := (blk_cell BK123.out 2).trans rfl
                          have hcz88_3 : wc.cell? ⟨gb123, 3, none⟩ = some (.int .i64 x124003_55) := (blk_cell BK123.out 3).trans rfl
                          have hfz88_0 := blk_frozen BK123.out 0
                          have hfz88_1 := blk_frozen BK123.out 1
                          have hfz88_2 := blk_frozen BK123.out 2
                          have hfz88_3 := blk_frozen BK123.out 3
                          go_upto_if 125 with (fail)
                          go_cut [8] (fun v8 wc => ∃ (kq : Nat) (x8_84 : Int), v8 = .int .i64 x8_84 ∧ Aside0 (spec_FAdd.j5 kq x8_84 x11_65 x119000_55 x119001_55 x119002_55 x119003_55 = some r) ∧ Aside0 (kq ≤ kj65) ∧ Aside0 (wc.heap[gb118]? = some (.cells #[.int .i64 x119000_55, .bool x119001_55, .int .i64 x119002_55, .int .i64 x119003_55] 95 (0, 0))) ∧ Aside0 (wc.heap[gb123]? = some (.cells #[.int .i64 x124000_55, .bool x124001_55, .int .i64 x124002_55, .int .i64 x124003_55] 95 (0, 0))) ∧ Aside0 (Below w.heap.size w wc))
                          case first =>
                            have H := HC85.out
                            clear HC85
                            by_cases c89 : x11_65 = true
                            · subst c89
                              have H1 : (spec_FAdd.j5 kj65 (wrap64 ((wrap64 ((wrap64 (x119002_55 * 1073741824)) - x10_65)) - 1)) true x119000_55 x119001_55 x119002_55 x119003_55) = some r := by rw [if_pos rfl] at H; exact H
                              clear H
                              have H := H1
                              clear H1
                              have H' := Aside0.mk H
                              clear H
                              go_wp2
                              go_meet
                              case rel => exact ⟨_, (wrap64 ((wrap64 ((wrap64 (x119002_55 * 1073741824)) - x10_65)) - 1)), (by first | rfl | (simp; done) | (simp [*]; done)), H', ⟨by have := HJ4.out; have := HJ40.out; have := HJ55.out; have := HJ65.out; first | omega | exact Nat.le_refl _⟩, ⟨by (with_reducible repeat (first | refine blk_drewN ?_ _ | refine blk_drew ?_ | refine blk_alloc ?_ _)); exact BK118.out⟩, ⟨by (with_reducible repeat (first | refine blk_drewN ?_ _ | refine blk_drew ?_ | refine blk_alloc ?_ _)); exact BK123.out⟩, ⟨by repeat (first | (with_reducible first | exact HB.out | apply below_alloc | apply pw_below_drewN | apply below_drew1 | refine below_set ?_ GE118.out | refine below_set ?_ GE123.out) | exact HB.out)⟩⟩
                            · replace c89 := Bool.eq_false_iff.mpr c89
                              subst c89
                              have H1 : (spec_FAdd.j5 kj65 (wrap64 ((wrap64 (x119002_55 * 1073741824)) - x10_65)) false x119000_55 x119001_55 x119002_55 x119003_55) = some r := by rw [if_neg (show ¬ (false = true) by decide)] at H; exact H
                              clear H
                              have H := H1
                              clear H1
                              have H' := Aside0.mk H
                              clear H
                              go_wp2
                              go_meet
                              case rel => exact ⟨_, (wrap64 ((wrap64 (x119002_55 * 1073741824)) - x10_65)), (by first | rfl | (simp; done) | (simp [*]; done)), H', ⟨by have := HJ4.out; have := HJ40.out; have := HJ55.out; have := HJ65.out; first | omega | exact Nat.le_refl _⟩, ⟨by (with_reducible repeat (first | refine blk_drewN ?_ _ | refine blk_drew ?_ | refine blk_alloc ?_ _)); exact BK118.out⟩, ⟨by (with_reducible repeat (first | refine blk_drewN ?_ _ | refine blk_drew ?_ | refine blk_alloc ?_ _)); exact BK123.out⟩, ⟨by repeat (first | (with_reducible first | exact HB.out | apply below_alloc | apply pw_below_drewN | apply below_drew1 | refine below_set ?_ GE118.out | refine below_set ?_ GE123.out) | exact HB.out)⟩⟩
                          case rest =>
                            clear HC85
                            try clear c1
                            try clear c2
                            try clear p2
                            try clear c3
                            try clear c4
                            try clear c5
                            try clear c6
                            try clear p6
                            try clear c7
                            try clear c8
                            try clear c11
                            try clear c13
                            try clear c13b0
                            try clear c13b1
                            try clear c14
                            try clear c16
                            try clear c16b0
                            try clear c16b1
                            try clear c17
                            try clear c20
                            try clear c20b0
                            try clear c20b1
                            try clear c21
                            try clear c21b0
                            try clear c21b1
                            try clear c22
                            try clear c25
                            try clear c28
                            try clear c31
                            try clear c32
                            try clear c32b0
                            try clear c32b1
                            try clear c34
                            try clear c36
                            try clear c36b0
                            try clear c36b1
                            try clear c38
                            try clear c42
                            try clear c45
                            try clear c45b0
                            try clear c46
                            try clear c49
                            try clear c49b0
                            try clear c49b1
                            try clear c50
                            try clear c53
                            try clear c54
                            try clear c57
                            try clear c58
                            try clear c61
                            try clear c62
                            try clear p64
                            try clear c67
                            try clear c70
                            try clear c70b0
                            try clear c72
                            try clear c72b0
                            try clear c72b1
                            try clear c74
                            try clear c76
                            try clear c78
                            try clear c78b0
                            try clear c79
                            try clear c80
                            try clear c80b0
                            try clear c80b1
                            try clear c80b2
                            try clear c82
                            try clear c86
                            try clear c89
                            try clear hcz12_0
                            try clear hcz12_1
                            try clear hcz12_2
                            try clear hcz12_3
                            try clear hcz15_0
                            try clear hcz15_1
                            try clear hcz15_2
                            try clear hcz15_3
                            try clear hcz18_0
                            try clear hcz18_1
                            try clear hcz18_2
                            try clear hcz18_3
                            try clear hcz19_0
                            try clear hcz19_1
                            try clear hcz19_2
                            try clear hcz19_3
                            try clear hcz23_0
                            try clear hcz23_1
                            try clear hcz23_2
                            try clear hcz23_3
                            try clear hcz24_0
                            try clear hcz24_1
                            try clear hcz24_2
                            try clear hcz24_3
                            try clear hcz26_0
                            try clear hcz26_1
                            try clear hcz26_2
                            try clear hcz26_3
                            try clear hcz27_0
                            try clear hcz27_1
                            try clear hcz27_2
                            try clear hcz27_3
                            try clear hcz29_0
                            try clear hcz29_1
                            try clear hcz29_2
                            try clear hcz29_3
                            try clear hcz30_0
                            try clear hcz30_1
                            try clear hcz30_2
                            try clear hcz30_3
                            try clear hcz35_0
                            try clear hcz35_1
                            try clear hcz35_2
                            try clear hcz35_3
                            try clear hcz39_0
                            try clear hcz39_1
                            try clear hcz39_2
                            try clear hcz39_3
                            try clear hcz40_0
                            try clear hcz40_1
                            try clear hcz40_2
                            try clear hcz40_3
                            try clear hcz43_0
                            try clear hcz43_1
                            try clear hcz43_2
                            try clear hcz43_3
                            try clear hcz44_0
                            try clear hcz44_1
                            try clear hcz44_2
                            try clear hcz44_3
                            try clear hcz47_0
                            try clear hcz47_1
                            try clear hcz47_2
                            try clear hcz47_3
                            try clear hcz48_0
                            try clear hcz48_1
                            try clear hcz48_2
                            try clear hcz48_3
                            try clear hcz51_0
                            try clear hcz51_1
                            try clear hcz51_2
                            try clear hcz51_3
                            try clear hcz52_0
                            try clear hcz52_1
                            try clear hcz52_2
                            try clear hcz52_3
                            try clear hcz54_0
                            try clear hcz54_1
                            try clear hcz54_2
                            try clear hcz54_3
                            try clear hcz55_0
                            try clear hcz55_1
                            try clear hcz55_2
                            try clear hcz55_3
                            try clear hcz59_0
                            try clear hcz59_1
                            try clear hcz59_2
                            try clear hcz59_3
                            try clear hcz63_0
                            try clear hcz63_1
                            try clear hcz63_2
                            try clear hcz63_3
                            try clear hcz64_0
                            try clear hcz64_1
                            try clear hcz64_2
                            try clear hcz64_3
                            try clear hcz65_0
                            try clear hcz65_1
                            try clear hcz65_2
                            try clear hcz65_3
                            try clear hcz68_0
                            try clear hcz68_1
                            try clear hcz68_2
                            try clear hcz68_3
                            try clear hcz69_0
                            try clear hcz69_1
                            try clear hcz69_2
                            try clear hcz69_3
                            try clear hcz75_0
                            try clear hcz75_1
                            try clear hcz75_2
                            try clear hcz75_3
                            try clear hcz77_0
                            try clear hcz77_1
                            try clear hcz77_2
                            try clear hcz77_3
                            try clear hcz83_0
                            try clear hcz83_1
                            try clear hcz83_2
                            try clear hcz83_3
                            try clear hcz84_0
                            try clear hcz84_1
                            try clear hcz84_2
                            try clear hcz84_3
                            try clear hcz87_0
                            try clear hcz87_1
                            try clear hcz87_2
                            try clear hcz87_3
                            try clear hcz88_0
                            try clear hcz88_1
                            try clear hcz88_2
                            try clear hcz88_3
                            try clear hcz8_0
                            try clear hcz8_1
                            try clear hcz8_2
                            try clear hcz8_3
                            try clear hfz12_0
                            try clear hfz12_1
                            try clear hfz12_2
                            try clear hfz12_3
                            try clear hfz15_0
                            try clear hfz15_1
                            try clear hfz15_2
                            try clear hfz15_3
                            try clear hfz18_0
                            try clear hfz18_1
                            try clear hfz18_2
                            try clear hfz18_3
                            try clear hfz19_0
                            try clear hfz19_1
                            try clear hfz19_2
                            try clear hfz19_3
                            try clear hfz23_0
                            try clear hfz23_1
                            try clear hfz23_2
                            try clear hfz23_3
                            try clear hfz24_0
                            try clear hfz24_1
                            try clear hfz24_2
                            try clear hfz24_3
                            try clear hfz26_0
                            try clear hfz26_1
                            try clear hfz26_2
                            try clear hfz26_3
                            try clear hfz27_0
                            try clear hfz27_1
                            try clear hfz27_2
                            try clear hfz27_3
                            try clear hfz29_0
                            try clear hfz29_1
                            try clear hfz29_2
                            try clear hfz29_3
                            try clear hfz30_0
                            try clear hfz30_1
                            try clear hfz30_2
                            try clear hfz30_3
                            try clear hfz35_0
                            try clear hfz35_1
                            try clear hfz35_2
                            try clear hfz35_3
                            try clear hfz39_0
                            try clear hfz39_1
                            try clear hfz39_2
                            try clear hfz39_3
                            try clear hfz40_0
                            try clear hfz40_1
                            try clear hfz40_2
                            try clear hfz40_3
                            try clear hfz43_0
                            try clear hfz43_1
                            try clear hfz43_2
                            try clear hfz43_3
                            try clear hfz44_0
                            try clear hfz44_1
                            try clear hfz44_2
                            try clear hfz44_3
                            try clear hfz47_0
                            try clear hfz47_1
                            try clear hfz47_2
                            try clear hfz47_3
                            try clear hfz48_0
                            try clear hfz48_1
                            try clear hfz48_2
                            try clear hfz48_3
                            try clear hfz51_0
                            try clear hfz51_1
                            try clear hfz51_2
                            try clear hfz51_3
                            try clear hfz52_0
                            try clear hfz52_1
                            try clear hfz52_2
                            try clear hfz52_3
                            try clear hfz54_0
                            try clear hfz54_1
                            try clear hfz54_2
                            try clear hfz54_3
                            try clear hfz55_0
                            try clear hfz55_1
                            try clear hfz55_2
                            try clear hfz55_3
                            try clear hfz59_0
                            try clear hfz59_1
                            try clear hfz59_2
                            try clear hfz59_3
                            try clear hfz63_0
                            try clear hfz63_1
                            try clear hfz63_2
                            try clear hfz63_3
                            try clear hfz64_0
                            try clear hfz64_1
                            try clear hfz64_2
                            try clear hfz64_3
                            try clear hfz65_0
                            try clear hfz65_1
                            try clear hfz65_2
                            try clear hfz65_3
                            try clear hfz68_0
                            try clear hfz68_1
                            try clear hfz68_2
                            try clear hfz68_3
                            try clear hfz69_0
                            try clear hfz69_1
                            try clear hfz69_2
                            try clear hfz69_3
                            try clear hfz75_0
                            try clear hfz75_1
                            try clear hfz75_2
                            try clear hfz75_3
                            try clear hfz77_0
                            try clear hfz77_1
                            try clear hfz77_2
                            try clear hfz77_3
                            try clear hfz83_0
                            try clear hfz83_1
                            try clear hfz83_2
                            try clear hfz83_3
                            try clear hfz84_0
                            try clear hfz84_1
                            try clear hfz84_2
                            try clear hfz84_3
                            try clear hfz87_0
                            try clear hfz87_1
                            try clear hfz87_2
                            try clear hfz87_3
                            try clear hfz88_0
                            try clear hfz88_1
                            try clear hfz88_2
                            try clear hfz88_3
                            try clear hfz8_0
                            try clear hfz8_1
                            try clear hfz8_2
                            try clear hfz8_3
                            try clear p2
                            try clear p6
                            try clear p64
                            obtain ⟨kq, x8_84, rfl, HA, HJ84, BK118, BK123, HB⟩ := hcut
                            (try clear hji71x); (try clear hji71y); (try clear hji71v); (try clear hji71u); (try clear hji71z); (try clear hji71_); (try clear hji71)
                            (try clear hji73x); (try clear hji73y); (try clear hji73v); (try clear hji73u); (try clear hji73z); (try clear hji73_); (try clear hji73)
                            cases kq with
                            | zero => exact absurd HA.out (by simp [spec_FAdd.j5])
                            | succ kj84 =>
                              have H := HA.out
                              clear HA
                              simp only [spec_FAdd.j5] at H
                              have HC90 := Aside0.mk H
                              clear H
                              go_upto_if 129 with (fail)
                              go_cut [8] (fun v8 wc => ∃ (kq : Nat) (x8_89 : Int) (x119001_89 : Bool), v8 = .int .i64 x8_89 ∧ Aside0 (spec_FAdd.j6 kq x8_89 x11_65 x119000_55 x119001_89 x119002_55 x119003_55 = some r) ∧ Aside0 (kq ≤ kj84) ∧ Aside0 (wc.heap[gb118]? = some (.cells #[.int .i64 x119000_55, .bool x119001_89, .int .i64 x119002_55, .int .i64 x119003_55] 95 (0, 0))) ∧ Aside0 (wc.heap[gb123]? = some (.cells #[.int .i64 x124000_55, .bool x124001_55, .int .i64 x124002_55, .int .i64 x124003_55] 95 (0, 0))) ∧ Aside0 (Below w.heap.size w wc))
                              case first =>
                                have H := HC90.out
                                clear HC90
                                by_cases c91 : x8_84 < 0
                                · rw [if_pos c91] at H
                                  have c91b0 : decide (x8_84 < 0) = true := decide_eq_true c91
                                  clear c91
                                  (first | rw [c91b0] | (simp only [i64_w, i32_w]; rw [c91b0]) | skip)
                                  have H' := Aside0.mk H
                                  clear H
                                  have hnb92 := NB118_123.out
                                  have hnc92 := NB123_118.out
                                  have hcz93_0 : wc.cell? ⟨gb118, 0, none⟩ = some (.int .i64 x119000_55) := (blk_cell BK118.out 0).trans rfl
                                  have hcz93_1 : wc.cell? ⟨gb118, 1, none⟩ = some (.bool x119001_55) := (blk_cell BK118.out 1).trans rfl
                                  have hcz93_2 : wc.cell? ⟨gb118, 2, none⟩ = some (.int .i64 x119002_55) := (blk_cell BK118.out 2).trans rfl
                                  have hcz93_3 : wc.cell? ⟨gb118, 3, none⟩ = some (.int .i64 x119003_55) := (blk_cell BK118.out 3).trans rfl
                                  have hfz93_0 := blk_frozen BK118.out 0
                                  have hfz93_1 := blk_frozen BK118.out 1
                                  have hfz93_2 := blk_frozen BK118.out 2
                                  have hfz93_3 := blk_frozen BK118.out 3
                                  go_wp2
                                  go_meet
                                  case rel => exact ⟨_, (wrap64 (-x8_84)), (!x119001_55), (by first | rfl | (simp; done) | (simp [*]; done)), H', ⟨by have := HJ4.out; have := HJ40.out; have := HJ55.out; have := HJ65.out; have := HJ84.out; first | omega | exact Nat.le_refl _⟩, ⟨by (with_reducible repeat (first | refine blk_drewN ?_ _ | refine blk_drew ?_ | refine blk_alloc ?_ _)); refine blk_put (cs := #[.int .i64 x119000_55, .bool x119001_55, .int .i64 x119002_55, .int .i64 x119003_55]) ?_ 1 _ rfl; (with_reducible repeat (first | refine blk_drewN ?_ _ | refine blk_drew ?_ | refine blk_alloc ?_ _)); exact BK118.out⟩, ⟨by (with_reducible repeat (first | refine blk_drewN ?_ _ | refine blk_drew ?_ | refine blk_alloc ?_ _)); refine blk_far ?_ NB123_118.out _; (with_reducible repeat (first | refine blk_drewN ?_ _ | refine blk_drew ?_ | refine blk_alloc ?_ _)); exact BK123.out⟩, ⟨by repeat (first | (with_reducible first | exact HB.out | apply below_alloc | apply pw_below_drewN | apply below_drew1 | refine below_set ?_ GE118.out | refine below_set ?_ GE123.out) | exact HB.out)⟩⟩
                                · rw [if_neg c91] at H
                                  have c91b0 : decide (x8_84 < 0) = false := decide_eq_false c91
                                  clear c91
                                  (first | rw [c91b0] | (simp only [i64_w, i32_w]; rw [c91b0]) | skip)
                                  have H' := Aside0.mk H
                                  clear H
                                  go_wp2
                                  go_meet
                                  case rel => exact ⟨_, (x8_84), (x119001_55), (by first | rfl | (simp; done) | (simp [*]; done)), H', ⟨by have := HJ4.out; have := HJ40.out; have := HJ55.out; have := HJ65.out; have := HJ84.out; first | omega | exact Nat.le_refl _⟩, ⟨by (with_reducible repeat (first | refine blk_drewN ?_ _ | refine blk_drew ?_ | refine blk_alloc ?_ _)); exact BK118.out⟩, ⟨by (with_reducible repeat (first | refine blk_drewN ?_ _ | refine blk_drew ?_ | refine blk_alloc ?_ _)); exact BK123.out⟩, ⟨by repeat (first | (with_reducible first | exact HB.out | apply below_alloc | apply pw_below_drewN | apply below_drew1 | refine below_set ?_ GE118.out | refine below_set ?_ GE123.out) | exact HB.out)⟩⟩
                              case rest =>
                                clear HC90
                                try clear c1
                                try clear c2
                                try clear p2
                                try clear c3
                                try clear c4
                                try clear c5
                                try clear c6
                                try clear p6
                                try clear c7
                                try clear c8
                                try clear c9
                                try clear c11
                                try clear c13
                                try clear c13b0
                                try clear c13b1
                                try clear c14
                                try clear c16
                                try clear c16b0
                                try clear c16b1
                                try clear c17
                                try clear c20
                                try clear c20b0
                                try clear c20b1
                                try clear c21
                                try clear c21b0
                                try clear c21b1
                                try clear c22
                                try clear c25
                                try clear c28
                                try clear c31
                                try clear c32
                                try clear c32b0
                                try clear c32b1
                                try clear c34
                                try clear c36
                                try clear c36b0
                                try clear c36b1
                                try clear c38
                                try clear c42
                                try clear c45
                                try clear c45b0
                                try clear c46
                                try clear c49
                                try clear c49b0
                                try clear c49b1
                                try clear c50
                                try clear c53
                                try clear c54
                                try clear c57
                                try clear c58
                                try clear c61
                                try clear c62
                                try clear p64
                                try clear c67
                                try clear c70
                                try clear c70b0
                                try clear c72
                                try clear c72b0
                                try clear c72b1
                                try clear c74
                                try clear c76
                                try clear c78
                                try clear c78b0
                                try clear c79
                                try clear c80
                                try clear c80b0
                                try clear c80b1
                                try clear c80b2
                                try clear c82
                                try clear c86
                                try clear c89
                                try clear c91
                                try clear c91b0
                                try clear c92
                                try clear hcz12_0
                                try clear hcz12_1
                                try clear hcz12_2
                                try clear hcz12_3
                                try clear hcz15_0
                                try clear hcz15_1
                                try clear hcz15_2
                                try clear hcz15_3
                                try clear hcz18_0
                                try clear hcz18_1
                                try clear hcz18_2
                                try clear hcz18_3
                                try clear hcz19_0
                                try clear hcz19_1
                                try clear hcz19_2
                                try clear hcz19_3
                                try clear hcz23_0
                                try clear hcz23_1
                                try clear hcz23_2
                                try clear hcz23_3
                                try clear hcz24_0
                                try clear hcz24_1
                                try clear hcz24_2
                                try clear hcz24_3
                                try clear hcz26_0
                                try clear hcz26_1
                                try clear hcz26_2
                                try clear hcz26_3
                                try clear hcz27_0
                                try clear hcz27_1
                                try clear hcz27_2
                                try clear hcz27_3
                                try clear hcz29_0
                                try clear hcz29_1
                                try clear hcz29_2
                                try clear hcz29_3
                                try clear hcz30_0
                                try clear hcz30_1
                                try clear hcz30_2
                                try clear hcz30_3
                                try clear hcz35_0
                                try clear hcz35_1
                                try clear hcz35_2
                                try clear hcz35_3
                                try clear hcz39_0
                                try clear hcz39_1
                                try clear hcz39_2
                                try clear hcz39_3
                                try clear hcz40_0
                                try clear hcz40_1
                                try clear hcz40_2
                                try clear hcz40_3
                                try clear hcz43_0
                                try clear hcz43_1
                                try clear hcz43_2
                                try clear hcz43_3
                                try clear hcz44_0
                                try clear hcz44_1
                                try clear hcz44_2
                                try clear hcz44_3
                                try clear hcz47_0
                                try clear hcz47_1
                                try clear hcz47_2
                                try clear hcz47_3
                                try clear hcz48_0
                                try clear hcz48_1
                                try clear hcz48_2
                                try clear hcz48_3
                                try clear hcz51_0
                                try clear hcz51_1
                                try clear hcz51_2
                                try clear hcz51_3
                                try clear hcz52_0
                                try clear hcz52_1
                                try clear hcz52_2
                                try clear hcz52_3
                                try clear hcz54_0
                                try clear hcz54_1
                                try clear hcz54_2
                                try clear hcz54_3
                                try clear hcz55_0
                                try clear hcz55_1
                                try clear hcz55_2
                                try clear hcz55_3
                                try clear hcz59_0
                                try clear hcz59_1
                                try clear hcz59_2
                                try clear hcz59_3
                                try clear hcz63_0
                                try clear hcz63_1
                                try clear hcz63_2
                                try clear hcz63_3
                                try clear hcz64_0
                                try clear hcz64_1
                                try clear hcz64_2
                                try clear hcz64_3
                                try clear hcz65_0
                                try clear hcz65_1
                                try clear hcz65_2
                                try clear hcz65_3
                                try clear hcz68_0
                                try clear hcz68_1
                                try clear hcz68_2
                                try clear hcz68_3
                                try clear hcz69_0
                                try clear hcz69_1
                                try clear hcz69_2
                                try clear hcz69_3
                                try clear hcz75_0
                                try clear hcz75_1
                                try clear hcz75_2
                                try clear hcz75_3
                                try clear hcz77_0
                                try clear hcz77_1
                                try clear hcz77_2
                                try clear hcz77_3
                                try clear hcz83_0
                                try clear hcz83_1
                                try clear hcz83_2
                                try clear hcz83_3
                                try clear hcz84_0
                                try clear hcz84_1
                                try clear hcz84_2
                                try clear hcz84_3
                                try clear hcz87_0
                                try clear hcz87_1
                                try clear hcz87_2
                                try clear hcz87_3
                                try clear hcz88_0
                                try clear hcz88_1
                                try clear hcz88_2
                                try clear hcz88_3
                                try clear hcz8_0
                                try clear hcz8_1
                                try clear hcz8_2
                                try clear hcz8_3
                                try clear hcz93_0
                                try clear hcz93_1
                                try clear hcz93_2
                                try clear hcz93_3
                                try clear hfz12_0
                                try clear hfz12_1
                                try clear hfz12_2
                                try clear hfz12_3
                                try clear hfz15_0
                                try clear hfz15_1
                                try clear hfz15_2
                                try clear hfz15_3
                                try clear hfz18_0
                                try clear hfz18_1
                                try clear hfz18_2
                                try clear hfz18_3
                                try clear hfz19_0
                                try clear hfz19_1
                                try clear hfz19_2
                                try clear hfz19_3
                                try clear hfz23_0
                                try clear hfz23_1
                                try clear hfz23_2
                                try clear hfz23_3
                                try clear hfz24_0
                                try clear hfz24_1
                                try clear hfz24_2
                                try clear hfz24_3
                                try clear hfz26_0
                                try clear hfz26_1
                                try clear hfz26_2
                                try clear hfz26_3
                                try clear hfz27_0
                                try clear hfz27_1
                                try clear hfz27_2
                                try clear hfz27_3
                                try clear hfz29_0
                                try clear hfz29_1
                                try clear hfz29_2
                                try clear hfz29_3
                                try clear hfz30_0
                                try clear hfz30_1
                                try clear hfz30_2
                                try clear hfz30_3
                                try clear hfz35_0
                                try clear hfz35_1
                                try clear hfz35_2
                                try clear hfz35_3
                                try clear hfz39_0
                                try clear hfz39_1
                                try clear hfz39_2
                                try clear hfz39_3
                                try clear hfz40_0
                                try clear hfz40_1
                                try clear hfz40_2
                                try clear hfz40_3
                                try clear hfz43_0
                                try clear hfz43_1
                                try clear hfz43_2
                                try clear hfz43_3
                                try clear hfz44_0
                                try clear hfz44_1
                                try clear hfz44_2
                                try clear hfz44_3
                                try clear hfz47_0
                                try clear hfz47_1
                                try clear hfz47_2
                                try clear hfz47_3
                                try clear hfz48_0
                                try clear hfz48_1
                                try clear hfz48_2
                                try clear hfz48_3
                                try clear hfz51_0
                                try clear hfz51_1
                                try clear hfz51_2
                                try clear hfz51_3
                                try clear hfz52_0
                                try clear hfz52_1
                                try clear hfz52_2
                                try clear hfz52_3
                                try clear hfz54_0
                                try clear hfz54_1
                                try clear hfz54_2
                                try clear hfz54_3
                                try clear hfz55_0
                                try clear hfz55_1
                                try clear hfz55_2
                                try clear hfz55_3
                                try clear hfz59_0
                                try clear hfz59_1
                                try clear hfz59_2
                                try clear hfz59_3
                                try clear hfz63_0
                                try clear hfz63_1
                                try clear hfz63_2
                                try clear hfz63_3
                                try clear hfz64_0
                                try clear hfz64_1
                                try clear hfz64_2
                                try clear hfz64_3
                                try clear hfz65_0
                                try clear hfz65_1
                                try clear hfz65_2
                                try clear hfz65_3
                                try clear hfz68_0
                                try clear hfz68_1
                                try clear hfz68_2
                                try clear hfz68_3
                                try clear hfz69_0
                                try clear hfz69_1
                                try clear hfz69_2
                                try clear hfz69_3
                                try clear hfz75_0
                                try clear hfz75_1
                                try clear hfz75_2
                                try clear hfz75_3
                                try clear hfz77_0
                                try clear hfz77_1
                                try clear hfz77_2
                                try clear hfz77_3
                                try clear hfz83_0
                                try clear hfz83_1
                                try clear hfz83_2
                                try clear hfz83_3
                                try clear hfz84_0
                                try clear hfz84_1
                                try clear hfz84_2
                                try clear hfz84_3
                                try clear hfz87_0
                                try clear hfz87_1
                                try clear hfz87_2
                                try clear hfz87_3
                                try clear hfz88_0
                                try clear hfz88_1
                                try clear hfz88_2
                                try clear hfz88_3
                                try clear hfz8_0
                                try clear hfz8_1
                                try clear hfz8_2
                                try clear hfz8_3
                                try clear hfz93_0
                                try clear hfz93_1
                                try clear hfz93_2
                                try clear hfz93_3
                                try clear p2
                                try clear p6
                                try clear p64
                                obtain ⟨kq, x8_89, x119001_89, rfl, HA, HJ89, BK118, BK123, HB⟩ := hcut
                                (try clear hji71x); (try clear hji71y); (try clear hji71v); (try clear hji71u); (try clear hji71z); (try clear hji71_); (try clear hji71)
                                (try clear hji73x); (try clear hji73y); (try clear hji73v); (try clear hji73u); (try clear hji73z); (try clear hji73_); (try clear hji73)
                                cases kq with
                                | zero => exact absurd HA.out (by simp [spec_FAdd.j6])
                                | succ kj89 =>
                                  have H := HA.out
                                  clear HA
                                  simp only [spec_FAdd.j6] at H
                                  by_cases c94 : x8_89 = 0
                                  · rw [if_pos c94] at H
                                    have c94b0 : (x8_89 == 0) = true := beq_iff_eq.mpr c94
                                    have c94b1 : (x8_89 != 0) = false := bne_eq_false_iff_eq.mpr c94
                                    clear c94
                                    by_cases c95 : x11_65 = true
                                    · subst c95
                                      have H1 : ((spec_l2Put.f kj89 x119001_89 x8_89 (wrap64 (x119003_55 - 30)) true).bind fun t128 => (some t128)) = some r := by rw [if_pos rfl] at H; exact H
                                      clear H
                                      have H := H1
                                      clear H1
                                      replace H := Option.bind_eq_some_iff.mp H
                                      obtain ⟨t128, A960, H⟩ := H
                                      replace H : (some t128) = some r := H
                                      have A96 := Aside0.mk A960
                                      clear A960
                                      obtain rfl := Option.some.inj H
                                      have hnb97 := NB118_123.out
                                      have hnc97 := NB123_118.out
                                      have hcz98_0 : wc.cell? ⟨gb118, 0, none⟩ = some (.int .i64 x119000_55) := (blk_cell BK118.out 0).trans rfl
                                      have hcz98_1 : wc.cell? ⟨gb118, 1, none⟩ = some (.bool x119001_89) := (blk_cell BK118.out 1).trans rfl
                                      have hcz98_2 : wc.cell? ⟨gb118, 2, none⟩ = some (.int .i64 x119002_55) := (blk_cell BK118.out 2).trans rfl
                                      have hcz98_3 : wc.cell? ⟨gb118, 3, none⟩ = some (.int .i64 x119003_55) := (blk_cell BK118.out 3).trans rfl
                                      have hfz98_0 := blk_frozen BK118.out 0
                                      have hfz98_1 := blk_frozen BK118.out 1
                                      have hfz98_2 := blk_frozen BK118.out 2
                                      have hfz98_3 := blk_frozen BK118.out 3
                                      go_wp2_with (first | ((with_reducible refine gate_callee (f := 80) rfl ?_); refine goesL_ (some 150) rfl rfl Try.func80 (by kernel_rfl) rfl #[.bool x119001_89, .int .i64 x8_89, .int .i64 (wrap64 (x119003_55 - 30)), .bool true] rfl (by (try simp only [List.map_toArray, List.map_cons, List.map_nil]); first | done | rfl | (simp only [List.length_drop, List.length_take]; rfl)) ?_; (with_reducible refine (spec_l2Put.calls kj89 x119001_89 x8_89 (wrap64 (x119003_55 - 30)) true t128 _ A96.out).mono ?_); rintro e w' ⟨rfl, ⟨nd, rfl⟩⟩; refine ⟨_, rfl, ?_⟩))
                                      go_ret
                                      exact ⟨by first | rfl | (simp [errW_none, errW_some] <;> rfl) | (simp [*, errW_none, errW_some] <;> rfl), by repeat (first | (with_reducible first | exact HB.out | apply below_alloc | apply pw_below_drewN | apply below_drew1 | refine below_set ?_ GE118.out | refine below_set ?_ GE123.out) | exact HB.out)⟩
                                    · replace c95 := Bool.eq_false_iff.mpr c95
                                      subst c95
                                      have H1 : ((spec_l2Put.f kj89 false x8_89 (wrap64 (x119003_55 - 30)) false).bind fun t129 => (some t129)) = some r := by rw [if_neg (show ¬ (false = true) by decide)] at H; exact H
                                      clear H
                                      have H := H1
                                      clear H1
                                      replace H := Option.bind_eq_some_iff.mp H
                                      obtain ⟨t129, A990, H⟩ := H
                                      replace H : (some t129) = some r := H
                                      have A99 := Aside0.mk A990
                                      clear A990
                                      obtain rfl := Option.some.inj H
                                      have hnb100 := NB118_123.out
                                      have hnc100 := NB123_118.out
                                      have hcz101_0 : wc.cell? ⟨gb118, 0, none⟩ = some (.int .i64 x119000_55) := (blk_cell BK118.out 0).trans rfl
                                      have hcz101_1 : wc.cell? ⟨gb118, 1, none⟩ = some (.bool x119001_89) := (blk_cell BK118.out 1).trans rfl
                                      have hcz101_2 : wc.cell? ⟨gb118, 2, none⟩ = some (.int .i64 x119002_55) := (blk_cell BK118.out 2).trans rfl
                                      have hcz101_3 : wc.cell? ⟨gb118, 3, none⟩ = some (.int .i64 x119003_55) := (blk_cell BK118.out 3).trans rfl
                                      have hfz101_0 := blk_frozen BK118.out 0
                                      have hfz101_1 := blk_frozen BK118.out 1
                                      have hfz101_2 := blk_frozen BK118.out 2
                                      have hfz101_3 := blk_frozen BK118.out 3
                                      go_wp2_with (first | ((with_reducible refine gate_callee (f := 80) rfl ?_); refine goesL_ (some 150) rfl rfl Try.func80 (by kernel_rfl) rfl #[.bool false, .int .i64 x8_89, .int .i64 (wrap64 (x119003_55 - 30)), .bool false] rfl (by (try simp only [List.map_toArray, List.map_cons, List.map_nil]); first | done | rfl | (simp only [List.length_drop, List.length_take]; rfl)) ?_; (with_reducible refine (spec_l2Put.calls kj89 false x8_89 (wrap64 (x119003_55 - 30)) false t129 _ A99.out).mono ?_); rintro e w' ⟨rfl, ⟨nd, rfl⟩⟩; refine ⟨_, rfl, ?_⟩))
                                      go_ret
                                      exact ⟨by first | rfl | (simp [errW_none, errW_some] <;> rfl) | (simp [*, errW_none, errW_some] <;> rfl), by repeat (first | (with_reducible first | exact HB.out | apply below_alloc | apply pw_below_drewN | apply below_drew1 | refine below_set ?_ GE118.out | refine below_set ?_ GE123.out) | exact HB.out)⟩
                                  · rw [if_neg c94] at H
                                    have c94b0 : (x8_89 == 0) = false := beq_eq_false_iff_ne.mpr c94
                                    have c94b1 : (x8_89 != 0) = true := bne_iff_ne.mpr c94
                                    replace H := Option.bind_eq_some_iff.mp H
                                    obtain ⟨t130, A1020, H⟩ := H
                                    replace H : (some t130) = some r := H
                                    have A102 := Aside0.mk A1020
                                    clear A1020
                                    obtain rfl := Option.some.inj H
                                    have hnb103 := NB118_123.out
                                    have hnc103 := NB123_118.out
                                    have hcz104_0 : wc.cell? ⟨gb118, 0, none⟩ = some (.int .i64 x119000_55) := (blk_cell BK118.out 0).trans rfl
                                    have hcz104_1 : wc.cell? ⟨gb118, 1, none⟩ = some (.bool x119001_89) := (blk_cell BK118.out 1).trans rfl
                                    have hcz104_2 : wc.cell? ⟨gb118, 2, none⟩ = some (.int .i64 x119002_55) := (blk_cell BK118.out 2).trans rfl
                                    have hcz104_3 : wc.cell? ⟨gb118, 3, none⟩ = some (.int .i64 x119003_55) := (blk_cell BK118.out 3).trans rfl
                                    have hfz104_0 := blk_frozen BK118.out 0
                                    have hfz104_1 := blk_frozen BK118.out 1
                                    have hfz104_2 := blk_frozen BK118.out 2
                                    have hfz104_3 := blk_frozen BK118.out 3
                                    go_wp2_with (first | ((with_reducible refine gate_callee (f := 80) rfl ?_); refine goesL_ (some 150) rfl rfl Try.func80 (by kernel_rfl) rfl #[.bool x119001_89, .int .i64 x8_89, .int .i64 (wrap64 (x119003_55 - 30)), .bool x11_65] rfl (by (try simp only [List.map_toArray, List.map_cons, List.map_nil]); first | done | rfl | (simp only [List.length_drop, List.length_take]; rfl)) ?_; (with_reducible refine (spec_l2Put.calls kj89 x119001_89 x8_89 (wrap64 (x119003_55 - 30)) x11_65 t130 _ A102.out).mono ?_); rintro e w' ⟨rfl, ⟨nd, rfl⟩⟩; refine ⟨_, rfl, ?_⟩))
                                    go_ret
                                    exact ⟨by first | rfl | (simp [errW_none, errW_some] <;> rfl) | (simp [*, errW_none, errW_some] <;> rfl), by repeat (first | (with_reducible first | exact HB.out | apply below_alloc | apply pw_below_drewN | apply below_drew1 | refine below_set ?_ GE118.out | refine below_set ?_ GE123.out) | exact HB.out)⟩

end Go.Proofs.Ytkgknnhecbbfgaa.PFnExactFSum
