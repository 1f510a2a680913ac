/- The whole root is the greatest whole number of which the square is not above; a clipped gradient is no longer than told, but for rounding; out of the printed functions. -/
import Derived.Test.YtpoblnigmfbnfabPFnRootClipx4
import Derived.Test.YtpoblnigmfbnfabBase

namespace Go.Proofs.Ytpoblnigmfbnfab.PureFnRootClip
set_option linter.unusedVariables false
set_option linter.unusedSimpArgs false
open Go.RowKit Go.Proofs.Ytpoblnigmfbnfab.PFnRootClip Go.Proofs.YtpoblnigmfbnfabW.PrintWords Go.Proofs.YtpoblnigmfbnfabW.PrintLast Go.Proofs.YtpoblnigmfbnfabW.PrintMore Go.Proofs.Ytpoblnigmfbnfab.Base 
/-! ### draws: whatever the bytes, they come to an end -/
theorem byte_some (l : List Int) (hl : l.length ≤ 9223372036854775807) (i h : Int) (hi : 0 ≤ i) : ∃ x i' h', spec_l1Byte.f l i h = some (x, i', h') ∧ 0 ≤ x ∧ x ≤ 255 ∧ 0 ≤ i' := by
  unfold spec_l1Byte.f
  simp only [and_255]
  by_cases h1 : i < (l.length : Int)
  · rw [if_pos h1, if_pos hi]
    refine ⟨_, _, _, rfl, by omega, by omega, ?_⟩
    rw [wrap_id] <;> omega
  · rw [if_neg h1]
    exact ⟨_, _, _, rfl, by omega, by omega, hi⟩
theorem below_some (l : List Int) (hl : l.length ≤ 9223372036854775807) (i h n : Int) (hi : 0 ≤ i) : ∃ x i' h', spec_l1Below.f l i h n = some (x, i', h') ∧ 0 ≤ x ∧ (0 < n → x < n) ∧ 0 ≤ i' := by
  unfold spec_l1Below.f
  by_cases h0 : n ≤ 0
  · rw [if_pos h0]
    exact ⟨_, _, _, rfl, by omega, by omega, hi⟩
  rw [if_neg h0]
  obtain ⟨x, i1, k1, e1, x1, x2, hi1⟩ := byte_some l hl i h hi
  obtain ⟨y, i2, k2, e2, y1, y2, hi2⟩ := byte_some l hl i1 k1 hi1
  obtain ⟨z, i3, k3, e3, z1, z2, hi3⟩ := byte_some l hl i2 k2 hi2
  obtain ⟨q, i4, k4, e4, q1, q2, hi4⟩ := byte_some l hl i3 k3 hi3
  by_cases h1 : n ≤ 256
  · rw [if_pos h1, e1]
    simp only [Option.bind_some]
    rw [if_neg (by omega)]
    exact ⟨_, _, _, rfl, Int.tmod_nonneg _ x1, fun hn => Int.tmod_lt_of_pos _ hn, hi1⟩
  · rw [if_neg h1, e1]
    simp only [Option.bind_some, e2, e3, e4]
    rw [if_neg (by omega)]
    refine ⟨_, _, _, rfl, Int.tmod_nonneg _ ?_, fun hn => Int.tmod_lt_of_pos _ hn, hi4⟩
    unfold wrap64
    omega
theorem once_some (l : List Int) (hl : l.length ≤ 9223372036854775807) (i h n : Int) (hi : 0 ≤ i) : ∃ b i' h', spec_l1Once.f l i h n = some (b, i', h') ∧ 0 ≤ i' := by
  obtain ⟨x, i1, k1, e1, _, _, hi1⟩ := below_some l hl i h n hi
  unfold spec_l1Once.f
  rw [e1]
  exact ⟨_, _, _, rfl, hi1⟩
theorem pick_some (l : List Int) (hl : l.length ≤ 9223372036854775807) (i h : Int) (list : List Int) (hi : 0 ≤ i) (hn : 0 < list.length) : ∃ x i' h', spec_l1PickInt.f l i h list = some (x, i', h') ∧ 0 ≤ i' := by
  obtain ⟨x, i1, k1, e1, x0, x1, hi1⟩ := below_some l hl i h (list.length : Int) hi
  unfold spec_l1PickInt.f
  rw [e1]
  simp only [Option.bind_some]
  rw [if_pos x0, if_pos (x1 (by omega))]
  exact ⟨_, _, _, rfl, hi1⟩
theorem new_l (l : List Int) (hl : l.length ≤ 9223372036854775807) : ∀ (d i : Nat) (h : Int), l.length - i = d → i ≤ l.length → ∃ h', Ev (fun k => spec_l1New.l0 k l h (i : Int)) (l, 0, h') := by
  intro d
  induction d with
  | zero =>
    intro i h hd hi
    exact ⟨h, Ev.succ (by simp only [spec_l1New.l0]; exact Ev.neg (by omega) (Ev.some rfl))⟩
  | succ d ih =>
    intro i h hd hi
    obtain ⟨h', e⟩ := ih (i + 1) (Go.bits .and .i64 (wrap64 ((wrap64 ((wrap64 (h * 131)) + (wrap64 (rd l (i : Int))))) + 7)) 1073741823) (by omega) (by omega)
    by_cases h4 : (i : Int) < 4000
    · refine ⟨h', Ev.succ ?_⟩
      simp only [spec_l1New.l0]
      refine Ev.pos (by omega) (Ev.pos h4 (Ev.pos (by omega) ?_))
      rw [up i (by omega : i < l.length) hl]
      exact e
    · refine ⟨h, Ev.succ ?_⟩
      simp only [spec_l1New.l0]
      exact Ev.pos (by omega) (Ev.neg h4 (Ev.some rfl))
theorem new_ev (l : List Int) (hl : l.length ≤ 9223372036854775807) : ∃ h', Ev (fun k => spec_l1New.f k l) (l, 0, h') := new_l l hl l.length 0 _ (by omega) (by omega)
theorem clone_f (l : List Int) (h : l.length < 17592186044416) : slices_Clone_int_int.f l = some l := by
  unfold slices_Clone_int_int.f
  rw [if_pos h]
theorem within_f (a b c : Int) : impl_within.f a b c = some (decide (b ≤ a) && decide (a ≤ c)) := by
  unfold impl_within.f
  split
  · next h => rw [decide_eq_true (show b ≤ a by omega), Bool.true_and]
  · next h => rw [decide_eq_false (show ¬ b ≤ a by omega), Bool.false_and]
theorem l5In_f (a b c : Int) : spec_l5In.f a b c = some (decide (b ≤ a) && decide (a ≤ c)) := within_f a b c
/-! ### the whole root, by halving both times -/
def isRoot (n r : Int) : Prop := 0 ≤ r ∧ r * r ≤ n ∧ n < (r + 1) * (r + 1)
theorem sq_le {a b : Int} (h0 : 0 ≤ a) (h : a ≤ b) : a * a ≤ b * b := Int.mul_le_mul h h h0 (by omega)
theorem root_one {n r s : Int} (h : isRoot n r) (k : isRoot n s) : r = s := by
  obtain ⟨h0, h1, h2⟩ := h
  obtain ⟨k0, k1, k2⟩ := k
  by_cases c : r < s
  · have := sq_le (show 0 ≤ r + 1 by omega) (show r + 1 ≤ s by omega)
    omega
  · by_cases c2 : s < r
    · have := sq_le (show 0 ≤ s + 1 by omega) (show s + 1 ≤ r by omega)
      omega
    · omega
theorem sroot_l (n : Int) (hn0 : 0 ≤ n) (hn : n ≤ 4611686018427387904) : ∀ (d : Nat) (lo hi : Int), (hi - lo).toNat ≤ d → 0 ≤ lo → lo < hi → hi ≤ 2147483649 → lo * lo ≤ n → n < hi * hi → ∃ r, Ev (fun k => spec_Root.l0 k n lo hi) r ∧ isRoot n r := by
  intro d
  induction d with
  | zero => intro lo hi hd h0 h1; omega
  | succ d ih =>
    intro lo hi hd h0 h1 h2 h3 h4
    by_cases c : hi - lo > 1
    · have m1 : lo < (lo + hi).tdiv 2 := by rw [Int.tdiv_eq_ediv_of_nonneg (by omega)]; omega
      have m2 : (lo + hi).tdiv 2 < hi := by rw [Int.tdiv_eq_ediv_of_nonneg (by omega)]; omega
      obtain ⟨m, hm⟩ : ∃ m, m = (lo + hi).tdiv 2 := ⟨_, rfl⟩
      rw [← hm] at m1 m2
      have q1 : m * m ≤ 2147483648 * 2147483648 := sq_le (by omega) (by omega)
      have q0 : 0 * 0 ≤ m * m := sq_le (by omega) (by omega)
      have ew : wrap64 (Int.tdiv (wrap64 (lo + hi)) 2) = m := by
        rw [wrap_id (by omega : -9223372036854775808 ≤ lo + hi) (by omega), ← hm, wrap_id (by omega) (by omega)]
      by_cases c2 : m * m ≤ n
      · obtain ⟨r, e, hr⟩ := ih m hi (by omega) (by omega) m2 h2 c2 h4
        refine ⟨r, Ev.succ ?_, hr⟩
        simp only [spec_Root.l0]
        rw [wrap_id (by omega : -9223372036854775808 ≤ hi - lo) (by omega), ew, wrap_id (by omega : -9223372036854775808 ≤ m * m) (by omega)]
        exact Ev.pos c (Ev.pos c2 e)
      · obtain ⟨r, e, hr⟩ := ih lo m (by omega) h0 m1 (by omega) h3 (by omega)
        refine ⟨r, Ev.succ ?_, hr⟩
        simp only [spec_Root.l0]
        rw [wrap_id (by omega : -9223372036854775808 ≤ hi - lo) (by omega), ew, wrap_id (by omega : -9223372036854775808 ≤ m * m) (by omega)]
        exact Ev.pos c (Ev.neg c2 e)
    · refine ⟨lo, Ev.succ ?_, h0, h3, ?_⟩
      · simp only [spec_Root.l0]
        rw [wrap_id (by omega : -9223372036854775808 ≤ hi - lo) (by omega)]
        exact Ev.neg c (Ev.some rfl)
      · rw [show lo + 1 = hi by omega]
        exact h4
theorem iroot_l (n : Int) (hn0 : 0 ≤ n) (hn : n ≤ 4611686018427387904) : ∀ (j : Nat) (r : Int), j ≤ 31 → 0 ≤ r → r ≤ 2147483648 → r * r ≤ n → n < (r + 2 * (2 ^ j : Nat)) * (r + 2 * (2 ^ j : Nat)) → ∃ s, Ev (fun k => impl_Root.l0 k n r ((2 ^ j : Nat) : Int)) s ∧ isRoot n s := by
  intro j
  induction j with
  | zero =>
    intro r hj h0 h1 h2 h3
    have step : ∀ s, isRoot n s → Ev (fun k => impl_Root.l0 k n s ((2 ^ 0 : Nat) : Int)) s → True := fun _ _ _ => trivial
    have last : ∀ s : Int, Ev (fun k => impl_Root.l0 k n s (((2 ^ 0 : Nat) : Int) / 2)) s := by
      intro s
      refine Ev.succ ?_
      simp only [impl_Root.l0]
      exact Ev.neg (by decide) (Ev.some rfl)
    have e1 : ((2 ^ 0 : Nat) : Int) = 1 := rfl
    rw [e1] at h3 last ⊢
    have w1 : wrap64 (r + 1) = r + 1 := wrap_id (by omega) (by omega)
    have q1 : (r + 1) * (r + 1) ≤ 2147483649 * 2147483649 := sq_le (by omega) (by omega)
    have q0 : 0 * 0 ≤ (r + 1) * (r + 1) := sq_le (by omega) (by omega)
    have w2 : wrap64 ((r + 1) * (r + 1)) = (r + 1) * (r + 1) := wrap_id (by omega) (by omega)
    by_cases c : (r + 1) * (r + 1) ≤ n
    · have c2 : r + 1 ≤ 2147483648 := by
        by_cases c3 : r + 1 ≤ 2147483648
        · exact c3
        · have := sq_le (show (0 : Int) ≤ 2147483649 by omega) (show 2147483649 ≤ r + 1 by omega)
          omega
      refine ⟨r + 1, Ev.succ ?_, by omega, c, by rw [show r + 1 + 1 = r + 2 * 1 by omega]; exact h3⟩
      simp only [impl_Root.l0]
      rw [w1, w2]
      exact Ev.pos (by decide) (Ev.pos c (Ev.pos c2 (last (r + 1))))
    · refine ⟨r, Ev.succ ?_, h0, h2, by omega⟩
      simp only [impl_Root.l0]
      rw [w1, w2]
      exact Ev.pos (by decide) (Ev.neg c (last r))
  | succ j ih =>
    intro r hj h0 h1 h2 h3
    have hp1 : (2 : Nat) ^ (j + 1) ≤ 2 ^ 31 := Nat.pow_le_pow_right (by decide) hj
    have hp2 : (2 : Nat) ^ (j + 1) = 2 * 2 ^ j := by rw [Nat.pow_succ, Nat.mul_comm]
    have hp0 : 0 < (2 : Nat) ^ j := Nat.pow_pos (by decide)
    have hp3 : (2 : Nat) ^ 31 = 2147483648 := by decide
    obtain ⟨p, hp⟩ : ∃ p : Nat, p = 2 ^ j := ⟨_, rfl⟩
    rw [hp2] at h3 ⊢
    rw [hp2] at hp1
    rw [← hp] at h3 hp0 hp1 ⊢
    rw [← hp] at ih
    have e2 : ((2 * p : Nat) : Int) / 2 = (p : Int) := by omega
    have w1 : wrap64 (r + ((2 * p : Nat) : Int)) = r + ((2 * p : Nat) : Int) := wrap_id (by omega) (by omega)
    by_cases c2 : r + ((2 * p : Nat) : Int) ≤ 2147483648
    · have q1 : (r + ((2 * p : Nat) : Int)) * (r + ((2 * p : Nat) : Int)) ≤ 2147483648 * 2147483648 := sq_le (by omega) (by omega)
      have q0 : 0 * 0 ≤ (r + ((2 * p : Nat) : Int)) * (r + ((2 * p : Nat) : Int)) := sq_le (by omega) (by omega)
      have w2 : wrap64 ((r + ((2 * p : Nat) : Int)) * (r + ((2 * p : Nat) : Int))) = (r + ((2 * p : Nat) : Int)) * (r + ((2 * p : Nat) : Int)) := wrap_id (by omega) (by omega)
      by_cases c : (r + ((2 * p : Nat) : Int)) * (r + ((2 * p : Nat) : Int)) ≤ n
      · obtain ⟨s, e, hs⟩ := ih (r + ((2 * p : Nat) : Int)) (by omega) (by omega) c2 c (by rw [show r + ((2 * p : Nat) : Int) + 2 * (p : Int) = r + 2 * ((2 * p : Nat) : Int) by omega]; exact h3)
        refine ⟨s, Ev.succ ?_, hs⟩
        simp only [impl_Root.l0]
        rw [w1, w2, e2]
        exact Ev.pos (by omega) (Ev.pos c (Ev.pos c2 e))
      · obtain ⟨s, e, hs⟩ := ih r (by omega) h0 h1 h2 (by rw [show r + 2 * (p : Int) = r + ((2 * p : Nat) : Int) by omega]; omega)
        refine ⟨s, Ev.succ ?_, hs⟩
        simp only [impl_Root.l0]
        rw [w1, w2, e2]
        exact Ev.pos (by omega) (Ev.neg c e)
    · have q := sq_le (show (0 : Int) ≤ 2147483649 by omega) (show 2147483649 ≤ r + ((2 * p : Nat) : Int) by omega)
      obtain ⟨s, e, hs⟩ := ih r (by omega) h0 h1 h2 (by rw [show r + 2 * (p : Int) = r + ((2 * p : Nat) : Int) by omega]; omega)
      refine ⟨s, Ev.succ ?_, hs⟩
      simp only [impl_Root.l0]
      rw [w1, e2]
      exact Ev.pos (by omega) (Ev.ite (fun _ => Ev.neg c2 e) (fun _ => e))
def rootV (n : Int) : Int → Prop := fun r => Ev (fun k => spec_Root.f k n) r ∧ Ev (fun k => impl_Root.f k n) r ∧ (0 ≤ n ∧ n ≤ 4611686018427387904 → isRoot n r) ∧ (¬ (0 ≤ n ∧ n ≤ 4611686018427387904) → r = 0)
theorem root_both (n : Int) : ∃ r, rootV n r := by
  unfold rootV spec_Root.f impl_Root.f
  by_cases h : 0 ≤ n ∧ n ≤ 4611686018427387904
  · obtain ⟨r, e1, h1⟩ := sroot_l n h.1 h.2 _ 0 2147483649 (Nat.le_refl _) (by omega) (by omega) (by omega) (by omega) (by omega)
    obtain ⟨s, e2, h2⟩ := iroot_l n h.1 h.2 31 0 (by omega) (by omega) (by omega) (by omega) (by omega)
    obtain rfl := root_one h1 h2
    have hb : (decide ((0 : Int) ≤ n) && decide (n ≤ 4611686018427387904)) = true := by simp [h.1, h.2]
    exact ⟨r, Ev.b (l5In_f _ _ _) (by rw [hb]; exact Ev.pos rfl e1), Ev.b (within_f _ _ _) (by rw [hb]; exact Ev.pos rfl e2), fun _ => h1, fun k => absurd h k⟩
  · have hb : (decide ((0 : Int) ≤ n) && decide (n ≤ 4611686018427387904)) = false := by
      rw [← Bool.decide_and]
      exact decide_eq_false h
    exact ⟨0, Ev.b (l5In_f _ _ _) (by rw [hb]; exact Ev.neg (by simp) (Ev.some rfl)), Ev.b (within_f _ _ _) (by rw [hb]; exact Ev.neg (by simp) (Ev.some rfl)), fun k => absurd k h, fun _ => rfl⟩
/-! ### gradients that can be, and how long they are -/
def gB (x : Int) : Bool := decide (-16777216 ≤ x) && decide (x ≤ 16777216)
def gradB (l : List Int) : Bool := l.all gB && decide (l.length ≤ 4096)
theorem sgrad_l (l : List Int) (hn : l.length ≤ 9223372036854775807) : ∀ (d i : Nat), l.length - i = d → i ≤ l.length → Ev (fun k => spec_l15Grad.l0 k l (i : Int)) ((l.drop i).all gB && decide (l.length ≤ 4096)) := by
  intro d
  induction d with
  | zero =>
    intro i hd hi
    refine Ev.succ ?_
    simp only [spec_l15Grad.l0]
    refine Ev.neg (by omega) (Ev.some ?_)
    rw [List.drop_eq_nil_of_le (by omega)]
    simp
    omega
  | succ d ih =>
    intro i hd hi
    have hlt : i < l.length := by omega
    refine Ev.succ ?_
    simp only [spec_l15Grad.l0]
    refine Ev.pos (by omega) (Ev.pos (by omega) ?_)
    rw [rd_at hlt, drop_at hlt, List.all_cons, up i hlt hn]
    refine Ev.b (l5In_f _ _ _) ?_
    change Ev (fun k => if gB l[i] = true then spec_l15Grad.l0 k l ((i + 1 : Nat) : Int) else some false) _
    cases gB l[i] with
    | false => exact Ev.neg (by simp) (Ev.some rfl)
    | true => exact Ev.pos rfl (ih (i + 1) (by omega) (by omega))
theorem sgrad_ev (l : List Int) (hn : l.length ≤ 9223372036854775807) : Ev (fun k => spec_l15Grad.f k l) (gradB l) := sgrad_l l hn l.length 0 (by omega) (by omega)
theorem isgrad_f (x : Int) : impl_isGrad.f x = some (gB x) := by
  unfold impl_isGrad.f
  rw [within_f]
  rfl
theorem igrad_l (l : List Int) (hn : l.length ≤ 9223372036854775807) : ∀ (d i : Nat), l.length - i = d → i ≤ l.length → Ev (fun k => impl_gradOk.l0 k l l (l.length : Int) (i : Int)) ((l.drop i).all gB && decide (l.length ≤ 4096)) := by
  intro d
  induction d with
  | zero =>
    intro i hd hi
    refine Ev.succ ?_
    simp only [impl_gradOk.l0]
    refine Ev.neg (by omega) (Ev.some ?_)
    rw [List.drop_eq_nil_of_le (by omega)]
    simp
    omega
  | succ d ih =>
    intro i hd hi
    have hlt : i < l.length := by omega
    refine Ev.succ ?_
    simp only [impl_gradOk.l0]
    refine Ev.pos (by omega) (Ev.pos (by omega) (Ev.pos (by omega) ?_))
    rw [rd_at hlt, drop_at hlt, List.all_cons, up i hlt hn]
    refine Ev.b (isgrad_f _) ?_
    cases gB l[i] with
    | false => exact Ev.neg (by simp) (Ev.some rfl)
    | true => exact Ev.pos rfl (ih (i + 1) (by omega) (by omega))
theorem igrad_ev (l : List Int) (hn : l.length ≤ 9223372036854775807) : Ev (fun k => impl_gradOk.f k l) (gradB l) := igrad_l l hn l.length 0 (by omega) (by omega)
def sumsq : List Int → Int
  | [] => 0
  | x :: xs => x * x + sumsq xs
theorem sqn {a b : Nat} (h : a ≤ b) : (a : Int) * (a : Int) ≤ (b : Int) * (b : Int) := Int.mul_le_mul (by omega) (by omega) (by omega) (by omega)
theorem gB_sq {x : Int} (h : gB x = true) : 0 ≤ x * x ∧ x * x ≤ 281474976710656 := by
  unfold gB at h
  simp only [Bool.and_eq_true, decide_eq_true_eq] at h
  have e : x * x = (x.natAbs : Int) * (x.natAbs : Int) := by rw [← Int.natCast_mul, ← Int.natAbs_mul_self]
  rw [e]
  have h1 := sqn (show x.natAbs ≤ 16777216 by omega)
  have h2 : (0 : Int) ≤ (x.natAbs : Int) * (x.natAbs : Int) := Int.mul_nonneg (by omega) (by omega)
  have h3 : ((16777216 : Nat) : Int) * ((16777216 : Nat) : Int) = 281474976710656 := by decide
  omega
theorem sumsq_le : ∀ (l : List Int), l.all gB = true → 0 ≤ sumsq l ∧ sumsq l ≤ l.length * 281474976710656
  | [], _ => by simp [sumsq]
  | x :: xs, h => by
    rw [List.all_cons, Bool.and_eq_true] at h
    have := gB_sq h.1
    have := sumsq_le xs h.2
    simp only [sumsq, List.length_cons]
    omega
theorem snorm_l (l : List Int) (hg : gradB l = true) (r : Int) (hr : Ev (fun k => spec_Root.f k (sumsq l)) r) : ∀ (d i : Nat) (s : Int), l.length - i = d → i ≤ l.length → s + sumsq (l.drop i) = sumsq l → 0 ≤ s → Ev (fun k => spec_Norm.l0 k l s (i : Int)) r := by
  have hg' := hg
  unfold gradB at hg'
  simp only [Bool.and_eq_true, decide_eq_true_eq] at hg'
  have hs := sumsq_le l hg'.1
  intro d
  induction d with
  | zero =>
    intro i s hd hi he h0
    rw [List.drop_eq_nil_of_le (by omega)] at he
    simp only [sumsq, Int.add_zero] at he
    rw [he]
    refine Ev.succ ?_
    simp only [spec_Norm.l0]
    exact Ev.neg (by omega) (Ev.bind hr (Ev.some rfl))
  | succ d ih =>
    intro i s hd hi he h0
    have hlt : i < l.length := by omega
    have hq := gB_sq (List.all_eq_true.1 hg'.1 _ (List.getElem_mem hlt))
    rw [drop_at hlt] at he
    simp only [sumsq] at he
    have hx := sumsq_le (l.drop (i + 1)) (List.all_eq_true.2 (fun x hx => List.all_eq_true.1 hg'.1 x (List.mem_of_mem_drop hx)))
    refine Ev.succ ?_
    simp only [spec_Norm.l0]
    refine Ev.pos (by omega) (Ev.bind (sgrad_ev l (by omega)) ?_)
    rw [hg]
    refine Ev.pos rfl (Ev.pos (by omega) ?_)
    rw [rd_at hlt, up i hlt (by omega), wrap_id (by omega : -9223372036854775808 ≤ l[i] * l[i]) (by omega), wrap_id (by omega : -9223372036854775808 ≤ s + l[i] * l[i]) (by omega)]
    exact ih (i + 1) _ (by omega) (by omega) (by omega) (by omega)
theorem inorm_l (l : List Int) (hg : gradB l = true) (r : Int) (hr : Ev (fun k => impl_Root.f k (sumsq l)) r) : ∀ (d i : Nat) (s : Int), l.length - i = d → i ≤ l.length → s + sumsq (l.drop i) = sumsq l → 0 ≤ s → Ev (fun k => impl_Norm.l0 k s l (l.length : Int) (i : Int)) r := by
  have hg' := hg
  unfold gradB at hg'
  simp only [Bool.and_eq_true, decide_eq_true_eq] at hg'
  have hs := sumsq_le l hg'.1
  intro d
  induction d with
  | zero =>
    intro i s hd hi he h0
    rw [List.drop_eq_nil_of_le (by omega)] at he
    simp only [sumsq, Int.add_zero] at he
    rw [he]
    refine Ev.succ ?_
    simp only [impl_Norm.l0]
    exact Ev.neg (by omega) (Ev.bind hr (Ev.some rfl))
  | succ d ih =>
    intro i s hd hi he h0
    have hlt : i < l.length := by omega
    have hq := gB_sq (List.all_eq_true.1 hg'.1 _ (List.getElem_mem hlt))
    rw [drop_at hlt] at he
    simp only [sumsq] at he
    have hx := sumsq_le (l.drop (i + 1)) (List.all_eq_true.2 (fun x hx => List.all_eq_true.1 hg'.1 x (List.mem_of_mem_drop hx)))
    refine Ev.succ ?_
    simp only [impl_Norm.l0]
    refine Ev.pos (by omega) (Ev.pos (by omega) (Ev.pos (by omega) ?_))
    rw [rd_at hlt, up i hlt (by omega), wrap_id (by omega : -9223372036854775808 ≤ l[i] * l[i]) (by omega), wrap_id (by omega : -9223372036854775808 ≤ s + l[i] * l[i]) (by omega)]
    exact ih (i + 1) _ (by omega) (by omega) (by omega) (by omega)
/-- Of a gradient that can be the norm is the root of the sum of the squares, by both. -/
theorem norm_both (l : List Int) (hg : gradB l = true) : ∃ r, isRoot (sumsq l) r ∧ Ev (fun k => spec_Norm.f k l) r ∧ Ev (fun k => impl_Norm.f k l) r := by
  have hg' := hg
  unfold gradB at hg'
  simp only [Bool.and_eq_true, decide_eq_true_eq] at hg'
  have hs := sumsq_le l hg'.1
  obtain ⟨r, h1, h2, h3, _⟩ := root_both (sumsq l)
  refine ⟨r, h3 ⟨hs.1, by omega⟩, snorm_l l hg r h1 l.length 0 0 (by omega) (by omega) (by simp) (by omega), ?_⟩
  unfold impl_Norm.f
  refine Ev.bind (igrad_ev l (by omega)) ?_
  rw [hg]
  exact Ev.pos rfl (inorm_l l hg r h2 l.length 0 0 (by omega) (by omega) (by simp) (by omega))
/-! ### rounding, the same by both -/
theorem near_j (k : Nat) (a b : Int) (x : Bool) : spec_Near.j0 k a b x = impl_Near.j0 k a b x := by
  cases k <;> rfl
theorem near_eq (k : Nat) (a b : Int) : spec_Near.f k a b = impl_Near.f k a b := by
  unfold spec_Near.f impl_Near.f
  rw [near_j, near_j]
theorem round_tot (a b c : Int) : ∃ v, impl_near.f a b c = some v := by
  unfold impl_near.f
  repeat' split
  all_goals exact ⟨_, rfl⟩
theorem near_j_tot (a b : Int) (x : Bool) (hx : x = false → b ≠ 0) : Tot (fun k => impl_Near.j0 k a b x) := by
  refine Tot.succ ?_
  simp only [impl_Near.j0]
  refine Tot.ite (fun _ => Tot.some _) (fun h => ?_)
  have hb : b ≠ 0 := hx (by simpa using h)
  obtain ⟨u, hu⟩ := round_tot (wrap64 ((wrap64 (Int.tdiv a b)) - 1)) (wrap64 ((Int.tmod a b) + b)) b
  obtain ⟨v, hv⟩ := round_tot (wrap64 (Int.tdiv a b)) (Int.tmod a b) b
  refine Tot.ite (fun h => absurd h hb) (fun _ => Tot.ite (fun _ => Tot.b hu (Tot.some _)) (fun _ => Tot.b hv (Tot.some _)))
theorem near_tot (a b : Int) : ∃ v, Ev (fun k => impl_Near.f k a b) v ∧ Ev (fun k => spec_Near.f k a b) v := by
  have t : Tot (fun k => impl_Near.f k a b) := by
    unfold impl_Near.f
    exact Tot.ite (fun _ => near_j_tot _ _ _ (by simp)) (fun h => near_j_tot _ _ _ (fun _ => by omega))
  obtain ⟨v, h⟩ := t
  exact ⟨v, h, Ev.same (fun k => near_eq k a b) h⟩
theorem near_val (q r d : Int) (h0 : 0 ≤ r) (h1 : r < d) (hd : d ≤ 4611686018427387904) (hq : -4611686018427387904 ≤ q) (hq' : q ≤ 4611686018427387904) :
    ∃ v, impl_near.f q r d = some v ∧ ((v = q ∧ 2 * r ≤ d) ∨ (v = q + 1 ∧ d ≤ 2 * r)) := by
  unfold impl_near.f
  rw [wrap_id (by omega : -9223372036854775808 ≤ d - r) (by omega), wrap_id (by omega : -9223372036854775808 ≤ q + 1) (by omega)]
  by_cases h2 : r > d - r
  · rw [if_pos h2]
    exact ⟨_, rfl, .inr ⟨rfl, by omega⟩⟩
  · rw [if_neg h2]
    by_cases h3 : r = d - r
    · rw [if_pos h3]
      split
      · exact ⟨_, rfl, .inr ⟨rfl, by omega⟩⟩
      · exact ⟨_, rfl, .inl ⟨rfl, by omega⟩⟩
    · rw [if_neg h3]
      exact ⟨_, rfl, .inl ⟨rfl, by omega⟩⟩
/-- The nearest whole number: at most half of d off. -/
theorem Near_val (n d : Int) (hd : 1 ≤ d) (hd' : d ≤ 1099511627776) (hn : -4611686018427387904 < n) (hn' : n < 4611686018427387904) :
    ∃ v, Ev (fun k => impl_Near.f k n d) v ∧ 2 * (n - d * v) ≤ d ∧ -d ≤ 2 * (n - d * v) := by
  have e := Int.mul_tdiv_add_tmod n d
  have r1 := Int.tmod_lt_of_pos n (show 0 < d by omega)
  have r2 := Int.lt_tmod_of_pos n (show 0 < d by omega)
  have q1 := Int.natAbs_tdiv_le_natAbs n d
  have q2 : -4611686018427387904 < Int.tdiv n d := by omega
  have q3 : Int.tdiv n d < 4611686018427387904 := by omega
  unfold impl_Near.f
  rw [show decide (d > 4611686018427387904) = false from decide_eq_false (by omega)]
  by_cases h : Int.tmod n d < 0
  · obtain ⟨v, hv, hv'⟩ := near_val (Int.tdiv n d - 1) (Int.tmod n d + d) d (by omega) (by omega) (by omega) (by omega) (by omega)
    refine ⟨v, Ev.neg (by omega) (Ev.succ ?_), ?_⟩
    · simp only [impl_Near.j0]
      refine Ev.neg (by simp) (Ev.neg (by omega) (Ev.pos h ?_))
      rw [wrap_id (by omega : -9223372036854775808 ≤ Int.tdiv n d) (by omega), wrap_id (by omega : -9223372036854775808 ≤ Int.tdiv n d - 1) (by omega), wrap_id (by omega : -9223372036854775808 ≤ Int.tmod n d + d) (by omega)]
      exact Ev.b hv (Ev.some rfl)
    · rcases hv' with ⟨rfl, hv'⟩ | ⟨rfl, hv'⟩
      · have p : d * (Int.tdiv n d - 1) = d * Int.tdiv n d - d := by rw [Int.mul_sub, Int.mul_one]
        omega
      · rw [Int.sub_add_cancel]
        omega
  · obtain ⟨v, hv, hv'⟩ := near_val (Int.tdiv n d) (Int.tmod n d) d (by omega) (by omega) (by omega) (by omega) (by omega)
    refine ⟨v, Ev.neg (by omega) (Ev.succ ?_), ?_⟩
    · simp only [impl_Near.j0]
      refine Ev.neg (by simp) (Ev.neg (by omega) (Ev.neg h ?_))
      rw [wrap_id (by omega : -9223372036854775808 ≤ Int.tdiv n d) (by omega)]
      exact Ev.b hv (Ev.some rfl)
    · rcases hv' with ⟨rfl, hv'⟩ | ⟨rfl, hv'⟩
      · omega
      · have p : d * (Int.tdiv n d + 1) = d * Int.tdiv n d + d := by rw [Int.mul_add, Int.mul_one]
        omega
/-! ### clipping -/
theorem nears (most norm : Int) : ∃ g : Int → Int, ∀ x, Ev (fun k => impl_Near.f k (wrap64 (x * most)) norm) (g x) ∧ Ev (fun k => spec_Near.f k (wrap64 (x * most)) norm) (g x) :=
  ⟨fun x => (near_tot (wrap64 (x * most)) norm).choose, fun x => (near_tot (wrap64 (x * most)) norm).choose_spec⟩
theorem sclip_l (l : List Int) (most norm : Int) (hn : l.length ≤ 4096) (g : Int → Int) (hg : ∀ x, Ev (fun k => spec_Near.f k (wrap64 (x * most)) norm) (g x)) :
    ∀ (d i : Nat) (out : List Int), l.length - i = d → i ≤ l.length → out.length = i → Ev (fun k => spec_Clip.l0 k l most out norm (i : Int)) (out ++ (l.drop i).map (fun x => if norm > most then g x else x)) := by
  intro d
  induction d with
  | zero =>
    intro i out hd hi ho
    refine Ev.succ ?_
    simp only [spec_Clip.l0]
    refine Ev.neg (by omega) (Ev.some ?_)
    rw [List.drop_eq_nil_of_le (by omega)]
    simp
  | succ d ih =>
    intro i out hd hi ho
    have hlt : i < l.length := by omega
    refine Ev.succ ?_
    simp only [spec_Clip.l0]
    refine Ev.pos (by omega) (Ev.pos (by omega) ?_)
    rw [rd_at hlt, drop_at hlt, List.map_cons, up i hlt (by omega)]
    refine Ev.ite (fun h => ?_) (fun h => ?_)
    · rw [if_pos h]
      refine Ev.bind (hg _) (Ev.pos (by omega) ?_)
      have := ih (i + 1) (out ++ [g l[i]]) (by omega) (by omega) (by simp [ho])
      rw [List.append_assoc] at this
      exact this
    · rw [if_neg h]
      refine Ev.pos (by omega) ?_
      have := ih (i + 1) (out ++ [l[i]]) (by omega) (by omega) (by simp [ho])
      rw [List.append_assoc] at this
      exact this
theorem iclip_l (l : List Int) (most norm : Int) (hn : l.length ≤ 4096) (g : Int → Int) (hg : ∀ x, Ev (fun k => impl_Near.f k (wrap64 (x * most)) norm) (g x)) :
    ∀ (d i : Nat), l.length - i = d → i ≤ l.length → Ev (fun k => impl_Clip.l0 k l most norm ((l.map g).take i ++ List.replicate ((l.map g).length - i) 0) (i : Int)) (l.map g) := by
  have hl : (l.map g).length = l.length := List.length_map _
  intro d
  induction d with
  | zero =>
    intro i hd hi
    refine Ev.succ ?_
    simp only [impl_Clip.l0]
    refine Ev.neg (by omega) (Ev.some ?_)
    rw [show (l.map g).length - i = 0 by omega, List.take_of_length_le (by omega)]
    simp
  | succ d ih =>
    intro i hd hi
    have hlt : i < l.length := by omega
    have hlt' : i < (l.map g).length := by omega
    refine Ev.succ ?_
    simp only [impl_Clip.l0]
    refine Ev.pos (by omega) (Ev.pos (by omega) (Ev.pos (by simp; omega) ?_))
    rw [rd_at hlt]
    refine Ev.bind (hg l[i]) ?_
    have e := set_fill (z := (0 : Int)) hlt'
    rw [List.getElem_map] at e
    rw [up i hlt (by omega), Int.toNat_natCast, e]
    exact ih (i + 1) (by omega) (by omega)
theorem clip_both (l : List Int) (most : Int) (h : l.length ≤ 1048576) : ∃ v, Ev (fun k => spec_Clip.f k l most) v ∧ Ev (fun k => impl_Clip.f k l most) v ∧ v.length ≤ 1048576 := by
  have s0 : Ev (fun k => spec_Clip.j0 k l most [] true) [] := by
    refine Ev.succ ?_
    simp only [spec_Clip.j0]
    exact Ev.pos (by trivial) (Ev.some rfl)
  have t1 := sgrad_ev l (by omega)
  have t2 := igrad_ev l (by omega)
  have u1 := l5In_f most 0 1073741824
  have u2 := within_f most 0 1073741824
  unfold spec_Clip.f impl_Clip.f
  cases hg : gradB l with
  | false =>
    rw [hg] at t1 t2
    exact ⟨[], Ev.b rfl (Ev.bind t1 (Ev.neg (by simp) s0)), Ev.bind t2 (Ev.neg (by simp) (Ev.some rfl)), by simp⟩
  | true =>
    rw [hg] at t1 t2
    cases hb : (decide ((0 : Int) ≤ most) && decide (most ≤ 1073741824)) with
    | false =>
      rw [hb] at u1 u2
      exact ⟨[], Ev.b rfl (Ev.bind t1 (Ev.pos rfl (Ev.b u1 s0))), Ev.bind t2 (Ev.pos rfl (Ev.b u2 (Ev.neg (by simp) (Ev.some rfl)))), by simp⟩
    | true =>
      rw [hb] at u1 u2
      have hn : l.length ≤ 4096 := by
        unfold gradB at hg
        simp only [Bool.and_eq_true, decide_eq_true_eq] at hg
        exact hg.2
      obtain ⟨norm, _, n1, n2⟩ := norm_both l hg
      obtain ⟨g, hgg⟩ := nears most norm
      have e1 := sclip_l l most norm hn g (fun x => (hgg x).2) l.length 0 [] (by omega) (by omega) rfl
      have e2 := iclip_l l most norm hn g (fun x => (hgg x).1) l.length 0 (by omega) (by omega)
      rw [List.drop_zero, List.nil_append] at e1
      refine ⟨l.map (fun x => if norm > most then g x else x), Ev.b rfl (Ev.bind t1 (Ev.pos rfl (Ev.b u1 (Ev.succ ?_)))), Ev.bind t2 (Ev.pos rfl (Ev.b u2 (Ev.pos rfl (Ev.bind n2 ?_)))), by rw [List.length_map]; exact h⟩
      · simp only [spec_Clip.j0]
        exact Ev.neg (by simp) (Ev.bind n1 e1)
      · refine Ev.ite (fun c => ?_) (fun c => ?_)
        · refine Ev.k ?_
          have : (fun x => if norm > most then g x else x) = (id : Int → Int) := by
            funext x
            rw [if_neg (by omega)]
            rfl
          rw [this, List.map_id]
          exact clone_f l (by omega)
        · have : (fun x => if norm > most then g x else x) = g := by
            funext x
            rw [if_pos (by omega)]
          rw [this]
          refine Ev.pos (by omega) ?_
          simpa using e2
/-! ### draws -/
theorem root_draw (l : List Int) (hl : l.length ≤ 9223372036854775807) : ∃ n, Ev (fun k => spec_DrawRoot.f k l) n := by
  obtain ⟨h1, e1⟩ := new_ev l hl
  obtain ⟨x2, i2, h2, e2, _, _, p2⟩ := below_some l hl 0 h1 2147483648 (by omega)
  obtain ⟨x3, i3, h3, e3, _, _, p3⟩ := below_some l hl i2 h2 200 p2
  obtain ⟨x4, i4, h4, e4, _⟩ := pick_some l hl i3 h3 [wrap64 (x2 * x2), wrap64 ((wrap64 (x2 * x2)) - 1), wrap64 ((wrap64 (x2 * x2)) + 1), x3, 0, (-1), 4611686018427387904, 4611686018427387905, 4611686018427387903] p3 (by simp)
  unfold spec_DrawRoot.f
  exact ⟨x4, Ev.bind e1 (Ev.b e2 (Ev.b e3 (Ev.b e4 (Ev.some rfl))))⟩
theorem grad_draw (l : List Int) (hl : l.length ≤ 9223372036854775807) : ∀ (d : Nat) (acc : List Int) (i h : Int), 0 ≤ i → acc.length + d ≤ 4000 → ∃ xs i' h', Ev (fun k => spec_l15DrawGrad.l0 k (d : Int) acc l i h) (xs, i', h') ∧ 0 ≤ i' ∧ xs.length ≤ 4000 := by
  intro d
  induction d with
  | zero =>
    intro acc i h hi ha
    obtain ⟨b, i1, h1, e1, p1⟩ := once_some l hl i h 12 hi
    cases b with
    | false =>
      refine ⟨acc, i1, h1, Ev.succ ?_, p1, by omega⟩
      simp only [spec_l15DrawGrad.l0]
      exact Ev.neg (by omega) (Ev.b e1 (Ev.neg (by simp) (Ev.some rfl)))
    | true =>
      by_cases c : (acc.length : Int) > 0
      · obtain ⟨x2, i2, h2, e2, p2⟩ := pick_some l hl i1 h1 [16777217, (-16777217), 4611686018427387904] p1 (by simp)
        refine ⟨acc.set (0 : Int).toNat x2, i2, h2, Ev.succ ?_, p2, by rw [List.length_set]; omega⟩
        simp only [spec_l15DrawGrad.l0]
        exact Ev.neg (by omega) (Ev.b e1 (Ev.pos rfl (Ev.pos c (Ev.b e2 (Ev.pos (by omega) (Ev.some rfl))))))
      · refine ⟨acc, i1, h1, Ev.succ ?_, p1, by omega⟩
        simp only [spec_l15DrawGrad.l0]
        exact Ev.neg (by omega) (Ev.b e1 (Ev.pos rfl (Ev.neg c (Ev.some rfl))))
  | succ d ih =>
    intro acc i h hi ha
    obtain ⟨x1, i1, h1, e1, _, _, p1⟩ := below_some l hl i h 200000 hi
    obtain ⟨b, i2, h2, e2, p2⟩ := once_some l hl i1 h1 20 p1
    have hw : wrap64 (((d + 1 : Nat) : Int) - 1) = (d : Int) := by rw [wrap_id] <;> omega
    cases b with
    | true =>
      obtain ⟨x3, i3, h3, e3, p3⟩ := pick_some l hl i2 h2 [16777216, (-16777216), 0] p2 (by simp)
      obtain ⟨xs, i4, h4, e4, p4, q4⟩ := ih (acc ++ [x3]) i3 h3 p3 (by simp; omega)
      refine ⟨xs, i4, h4, Ev.succ ?_, p4, q4⟩
      simp only [spec_l15DrawGrad.l0]
      refine Ev.pos (by omega) (Ev.b e1 (Ev.b e2 (Ev.pos rfl (Ev.b e3 (Ev.pos (by omega) ?_)))))
      rw [hw]
      exact e4
    | false =>
      obtain ⟨xs, i4, h4, e4, p4, q4⟩ := ih (acc ++ [wrap64 (x1 - 100000)]) i2 h2 p2 (by simp; omega)
      refine ⟨xs, i4, h4, Ev.succ ?_, p4, q4⟩
      simp only [spec_l15DrawGrad.l0]
      refine Ev.pos (by omega) (Ev.b e1 (Ev.b e2 (Ev.neg (by simp) (Ev.pos (by omega) ?_))))
      rw [hw]
      exact e4
theorem clip_draw (l : List Int) (hl : l.length ≤ 9223372036854775807) : ∃ g m, Ev (fun k => spec_DrawClip.f k l) (g, m) ∧ g.length ≤ 4000 := by
  obtain ⟨h1, e1⟩ := new_ev l hl
  obtain ⟨x2, i2, h2, e2, q2, q2', p2⟩ := below_some l hl 0 h1 9 (by omega)
  obtain ⟨n, rfl⟩ := Int.eq_ofNat_of_zero_le q2
  obtain ⟨xs, i3, h3, e3, p3, q3⟩ := grad_draw l hl n [] i2 h2 p2 (by simp; omega)
  obtain ⟨x4, i4, h4, e4, _, _, p4⟩ := below_some l hl i3 h3 300000 p3
  obtain ⟨b, i5, h5, e5, p5⟩ := once_some l hl i4 h4 20 p4
  unfold spec_DrawClip.f spec_l15DrawGrad.f
  cases b with
  | true =>
    obtain ⟨x6, i6, h6, e6, _⟩ := pick_some l hl i5 h5 [0, 1073741824, 1073741825, (-1)] p5 (by simp)
    exact ⟨xs, x6, Ev.bind e1 (Ev.b e2 (Ev.bind e3 (Ev.b e4 (Ev.b e5 (Ev.pos rfl (Ev.b e6 (Ev.some rfl))))))), q3⟩
  | false => exact ⟨xs, x4, Ev.bind e1 (Ev.b e2 (Ev.bind e3 (Ev.b e4 (Ev.b e5 (Ev.neg (by simp) (Ev.some rfl)))))), q3⟩
/-! ### how long a clipped gradient is -/
theorem sq0 (a : Int) : 0 ≤ a * a := by
  have e : a * a = (a.natAbs : Int) * (a.natAbs : Int) := by rw [← Int.natCast_mul, ← Int.natAbs_mul_self]
  rw [e]
  exact Int.mul_nonneg (by omega) (by omega)
def sumf (f : Int → Int) : List Int → Int
  | [] => 0
  | x :: xs => f x + sumf f xs
theorem sumsq_f : ∀ l : List Int, sumsq l = sumf (fun x => x * x) l
  | [] => rfl
  | x :: xs => by simp only [sumsq, sumf, sumsq_f xs]
theorem sumsq_m (c : Int → Int) : ∀ l : List Int, sumsq (l.map c) = sumf (fun x => c x * c x) l
  | [] => rfl
  | x :: xs => by simp only [List.map_cons, sumsq, sumf, sumsq_m c xs]
theorem I1 (c : Int → Int) (m N : Int) : ∀ l : List Int, N * N * sumf (fun x => c x * c x) l = m * m * sumf (fun x => x * x) l + 2 * m * sumf (fun x => x * (N * c x - x * m)) l + sumf (fun x => (N * c x - x * m) * (N * c x - x * m)) l
  | [] => by simp [sumf]
  | x :: xs => by
    have h := I1 c m N xs
    simp only [sumf]
    grind
theorem I2 (e : Int → Int) (N : Int) : ∀ l : List Int, (∀ x ∈ l, 2 * e x ≤ N ∧ -N ≤ 2 * e x) → 4 * sumf (fun x => e x * e x) l ≤ l.length * (N * N)
  | [], _ => by simp [sumf]
  | x :: xs, hx => by
    have h := I2 e N xs (fun y hy => hx y (List.mem_cons_of_mem _ hy))
    have h1 := hx x List.mem_cons_self
    have h2 : 0 ≤ (N - 2 * e x) * (N + 2 * e x) := Int.mul_nonneg (by omega) (by omega)
    have h3 : (N - 2 * e x) * (N + 2 * e x) = N * N - 4 * (e x * e x) := by grind
    have h4 : (((x :: xs).length : Nat) : Int) * (N * N) = (xs.length : Int) * (N * N) + N * N := by
      rw [List.length_cons]
      have : ((xs.length + 1 : Nat) : Int) = (xs.length : Int) + 1 := by omega
      rw [this, Int.add_mul, Int.one_mul]
    simp only [sumf]
    omega
theorem I3 (e : Int → Int) (a b : Int) : ∀ l : List Int, 2 * (a * b) * sumf (fun x => x * e x) l ≤ a * a * sumf (fun x => x * x) l + b * b * sumf (fun x => e x * e x) l
  | [] => by simp [sumf]
  | x :: xs => by
    have h := I3 e a b xs
    have h1 := sq0 (a * x - b * e x)
    have h2 : (a * x - b * e x) * (a * x - b * e x) = a * a * (x * x) - 2 * (a * b) * (x * e x) + b * b * (e x * e x) := by grind
    have h3 : 2 * (a * b) * (x * e x + sumf (fun x => x * e x) xs) = 2 * (a * b) * (x * e x) + 2 * (a * b) * sumf (fun x => x * e x) xs := Int.mul_add _ _ _
    have h4 : a * a * (x * x + sumf (fun x => x * x) xs) = a * a * (x * x) + a * a * sumf (fun x => x * x) xs := Int.mul_add _ _ _
    have h5 : b * b * (e x * e x + sumf (fun x => e x * e x) xs) = b * b * (e x * e x) + b * b * sumf (fun x => e x * e x) xs := Int.mul_add _ _ _
    simp only [sumf]
    omega
theorem clip_ineq (l : List Int) (c : Int → Int) (m N q : Int) (hm : 0 ≤ m) (hN : m < N) (hS : sumsq l < (N + 1) * (N + 1)) (hq1 : 1 ≤ q) (hq : (l.length : Int) < (q + 1) * (q + 1))
    (hc : ∀ x ∈ l, 2 * (N * c x - x * m) ≤ N ∧ -N ≤ 2 * (N * c x - x * m)) : sumsq (l.map c) ≤ (m + q + 1) * (m + q + 1) := by
  rw [sumsq_f] at hS
  rw [sumsq_m]
  have i1 := I1 c m N l
  have i2 := I2 (fun x => N * c x - x * m) N l hc
  have i3 := I3 (fun x => N * c x - x * m) (q * N) (N + 1) l
  obtain ⟨S, hSe⟩ : ∃ S, S = sumf (fun x => x * x) l := ⟨_, rfl⟩
  obtain ⟨G, hGe⟩ : ∃ G, G = sumf (fun x => x * (N * c x - x * m)) l := ⟨_, rfl⟩
  obtain ⟨E, hEe⟩ : ∃ E, E = sumf (fun x => (N * c x - x * m) * (N * c x - x * m)) l := ⟨_, rfl⟩
  obtain ⟨C, hCe⟩ : ∃ C, C = sumf (fun x => c x * c x) l := ⟨_, rfl⟩
  simp only [← hSe, ← hGe, ← hEe, ← hCe] at i1 i2 i3 hS ⊢
  clear hSe hGe hEe hCe
  have hNN : 0 < N * N := Int.mul_pos (by omega) (by omega)
  have hqN : 0 < q * N := Int.mul_pos (by omega) (by omega)
  have hb : 0 < (q * N) * (N + 1) := Int.mul_pos hqN (by omega)
  have hn : (l.length : Int) ≤ 4 * (q * q) := by
    have h := sq_le (show 0 ≤ q + 1 by omega) (show q + 1 ≤ 2 * q by omega)
    have h2 : 2 * q * (2 * q) = 4 * (q * q) := by grind
    omega
  have hE : E ≤ q * N * (q * N) := by
    have h := Int.mul_le_mul_of_nonneg_right hn (Int.le_of_lt hNN)
    have h2 : 4 * (q * q) * (N * N) = 4 * (q * N * (q * N)) := by grind
    omega
  have hG : G ≤ q * N * (N + 1) := by
    have h1 := Int.mul_le_mul_of_nonneg_left (show S ≤ (N + 1) * (N + 1) by omega) (sq0 (q * N))
    have h2 := Int.mul_le_mul_of_nonneg_left hE (sq0 (N + 1))
    have h3 : 2 * (q * N * (N + 1)) * G ≤ 2 * (q * N * (N + 1)) * (q * N * (N + 1)) := by
      have h4 : 2 * (q * N * (N + 1)) * (q * N * (N + 1)) = q * N * (q * N) * ((N + 1) * (N + 1)) + (N + 1) * (N + 1) * (q * N * (q * N)) := by grind
      omega
    exact Int.le_of_mul_le_mul_left h3 (by omega)
  have hfin : N * N * C ≤ (m * (N + 1) + q * N) * (m * (N + 1) + q * N) := by
    have h1 := Int.mul_le_mul_of_nonneg_left (show S ≤ (N + 1) * (N + 1) by omega) (sq0 m)
    have h2 := Int.mul_le_mul_of_nonneg_left hG (show 0 ≤ 2 * m by omega)
    have h3 : (m * (N + 1) + q * N) * (m * (N + 1) + q * N) = m * m * ((N + 1) * (N + 1)) + 2 * m * (q * N * (N + 1)) + q * N * (q * N) := by grind
    omega
  have hle : m * (N + 1) + q * N ≤ N * (m + q + 1) := by
    have h : N * (m + q + 1) = m * (N + 1) + q * N + (N - m) := by grind
    omega
  have h0 : 0 ≤ m * (N + 1) + q * N := Int.add_nonneg (Int.mul_nonneg hm (by omega)) (by omega)
  have h5 := sq_le h0 hle
  have h6 : N * (m + q + 1) * (N * (m + q + 1)) = N * N * ((m + q + 1) * (m + q + 1)) := by grind
  exact Int.le_of_mul_le_mul_left (show N * N * C ≤ N * N * ((m + q + 1) * (m + q + 1)) by omega) hNN
/-- What comes of rounding is no more than what it came of. -/
theorem near_in {x m N c : Int} (hm : 0 ≤ m) (hN : m < N) (hx : gB x = true) (h1 : 2 * (N * c - x * m) ≤ N) (h2 : -N ≤ 2 * (N * c - x * m)) : gB c = true := by
  unfold gB at hx ⊢
  simp only [Bool.and_eq_true, decide_eq_true_eq] at hx ⊢
  have a1 : x * m ≤ 16777216 * m := Int.mul_le_mul_of_nonneg_right hx.2 hm
  have a2 : -16777216 * m ≤ x * m := Int.mul_le_mul_of_nonneg_right hx.1 hm
  constructor
  · by_cases k : -16777216 ≤ c
    · exact k
    · have := Int.mul_le_mul_of_nonneg_left (show c ≤ -16777217 by omega) (show 0 ≤ N by omega)
      omega
  · by_cases k : c ≤ 16777216
    · exact k
    · have := Int.mul_le_mul_of_nonneg_left (show 16777217 ≤ c by omega) (show 0 ≤ N by omega)
      omega
theorem clip_full (l : List Int) (most : Int) (h : l.length ≤ 4000) : ∃ v, Ev (fun k => spec_Clip.f k l most) v ∧ Ev (fun k => impl_Clip.f k l most) v ∧
    (v = [] ∨ (gradB l = true ∧ 0 ≤ most ∧ most ≤ 1073741824 ∧ ∃ norm, isRoot (sumsq l) norm ∧ Ev (fun k => impl_Norm.f k l) norm ∧ (norm ≤ most → v = l) ∧
      (most < norm → ∃ c : Int → Int, v = l.map c ∧ ∀ x ∈ l, 2 * (norm * c x - x * most) ≤ norm ∧ -norm ≤ 2 * (norm * c x - x * most)))) := by
  obtain ⟨v, e1, e2, hv⟩ := clip_both l most (by omega)
  refine ⟨v, e1, e2, ?_⟩
  cases hg : gradB l with
  | false =>
    left
    have t2 := igrad_ev l (by omega)
    rw [hg] at t2
    unfold impl_Clip.f at e2
    exact Ev.uniq e2 (Ev.bind t2 (Ev.neg (by simp) (Ev.some rfl)))
  | true =>
    have t2 := igrad_ev l (by omega)
    rw [hg] at t2
    have u2 := within_f most 0 1073741824
    cases hb : (decide ((0 : Int) ≤ most) && decide (most ≤ 1073741824)) with
    | false =>
      left
      rw [hb] at u2
      unfold impl_Clip.f at e2
      exact Ev.uniq e2 (Ev.bind t2 (Ev.pos rfl (Ev.b u2 (Ev.neg (by simp) (Ev.some rfl)))))
    | true =>
      right
      rw [hb] at u2
      simp only [Bool.and_eq_true, decide_eq_true_eq] at hb
      obtain ⟨norm, hr, n1, n2⟩ := norm_both l hg
      have hg' := hg
      unfold gradB at hg'
      simp only [Bool.and_eq_true, decide_eq_true_eq] at hg'
      have hS := sumsq_le l hg'.1
      have hnorm : norm ≤ 1073741824 := by
        by_cases k : norm ≤ 1073741824
        · exact k
        · have := sq_le (show (0 : Int) ≤ 1073741825 by omega) (show 1073741825 ≤ norm by omega)
          have := hr.2.1
          omega
      refine ⟨rfl, hb.1, hb.2, norm, hr, n2, fun c => ?_, fun c => ?_⟩
      · unfold impl_Clip.f at e2
        exact Ev.uniq e2 (Ev.bind t2 (Ev.pos rfl (Ev.b u2 (Ev.pos rfl (Ev.bind n2 (Ev.pos c (Ev.k (clone_f l (by omega)))))))))
      · obtain ⟨g, hgg⟩ := nears most norm
        have e3 := iclip_l l most norm hg'.2 g (fun x => (hgg x).1) l.length 0 (by omega) (by omega)
        have e4 : v = l.map g := by
          unfold impl_Clip.f at e2
          exact Ev.uniq e2 (Ev.bind t2 (Ev.pos rfl (Ev.b u2 (Ev.pos rfl (Ev.bind n2 (Ev.neg (by omega) (Ev.pos (by omega) (by simpa using e3))))))))
        refine ⟨g, e4, fun x hx => ?_⟩
        have hxb := List.all_eq_true.1 hg'.1 x hx
        unfold gB at hxb
        simp only [Bool.and_eq_true, decide_eq_true_eq] at hxb
        have a1 : x * most ≤ 16777216 * most := Int.mul_le_mul_of_nonneg_right hxb.2 hb.1
        have a2 : -16777216 * most ≤ x * most := Int.mul_le_mul_of_nonneg_right hxb.1 hb.1
        obtain ⟨w, ew, w1, w2⟩ := Near_val (x * most) norm (by omega) (by omega) (by omega) (by omega)
        have ew2 := (hgg x).1
        rw [wrap_id (by omega) (by omega)] at ew2
        obtain rfl := Ev.uniq ew ew2
        omega
theorem same_ev (l : List Int) (h : l.length ≤ 9223372036854775807) : Ev (fun k => laws_sameInts.f k l l) true := by
  have : ∀ (d i : Nat), l.length - i = d → i ≤ l.length → Ev (fun k => laws_sameInts.l0 k l l (i : Int)) true := by
    intro d
    induction d with
    | zero =>
      intro i hd hi
      refine Ev.succ ?_
      simp only [laws_sameInts.l0]
      exact Ev.neg (by omega) (Ev.some rfl)
    | succ d ih =>
      intro i hd hi
      refine Ev.succ ?_
      simp only [laws_sameInts.l0]
      have hlt : i < l.length := by omega
      refine Ev.pos (by omega) (Ev.pos (by omega) (Ev.pos (by omega) (Ev.pos (by trivial) ?_)))
      rw [up i hlt h]
      exact ih (i + 1) (by omega) (by omega)
  unfold laws_sameInts.f
  exact Ev.pos rfl (this l.length 0 (by omega) (by omega))
theorem second (l : List Int) (hl : l.length ≤ 9223372036854775807) : Ev (fun k => laws_FnRootClip.j0 k l false) true := by
  obtain ⟨g, m, ed, hgl⟩ := clip_draw l hl
  obtain ⟨v, e1, e2, hv⟩ := clip_full g m hgl
  refine Ev.succ ?_
  simp only [laws_FnRootClip.j0]
  refine Ev.neg (by simp) (Ev.bind ed (Ev.bind e2 (Ev.bind e1 (Ev.pos rfl (Ev.ite (fun _ => Ev.some rfl) (fun hne => ?_))))))
  rcases hv with rfl | ⟨hg, hm0, hm1, norm, hr, en, v1, v2⟩
  · exact absurd rfl hne
  refine Ev.bind en (Ev.ite (fun c => ?_) (fun c => ?_))
  · obtain rfl := v1 c
    exact Ev.bind (same_ev v (by omega)) (Ev.some rfl)
  · have hg' := hg
    unfold gradB at hg'
    simp only [Bool.and_eq_true, decide_eq_true_eq] at hg'
    obtain ⟨cc, rfl, hcc⟩ := v2 (by omega)
    have hgv : gradB (g.map cc) = true := by
      unfold gradB
      simp only [Bool.and_eq_true, decide_eq_true_eq, List.length_map]
      refine ⟨List.all_eq_true.2 (fun y hy => ?_), hg'.2⟩
      obtain ⟨x, hx, rfl⟩ := List.mem_map.1 hy
      have := hcc x hx
      exact near_in hm0 (by omega) (List.all_eq_true.1 hg'.1 x hx) this.1 this.2
    obtain ⟨r2, hr2, _, en2⟩ := norm_both (g.map cc) hgv
    obtain ⟨q, _, eq, hq, _⟩ := root_both ((g.map cc).length : Int)
    have hq := hq ⟨by omega, by rw [List.length_map]; omega⟩
    have hlen : ((g.map cc).length : Int) = (g.length : Int) := by rw [List.length_map]
    have hq1 : 1 ≤ q := by
      by_cases k : 1 ≤ q
      · exact k
      · have hq0 : q = 0 := by have := hq.1; omega
        have := hq.2.2
        rw [hq0] at this
        omega
    have hqs : q ≤ 4000 := by
      by_cases k : q ≤ 4000
      · exact k
      · have := sq_le (show (0 : Int) ≤ 4001 by omega) (show 4001 ≤ q by omega)
        have := hq.2.1
        omega
    have hin := clip_ineq g cc m norm q hm0 (by omega) hr.2.2 hq1 (by rw [← hlen]; exact hq.2.2) hcc
    have hr3 : r2 ≤ m + q + 1 := by
      by_cases k : r2 ≤ m + q + 1
      · exact k
      · have := sq_le (show 0 ≤ m + q + 2 by omega) (show m + q + 2 ≤ r2 by omega)
        have h7 : (m + q + 2) * (m + q + 2) = (m + q + 1) * (m + q + 1) + 2 * (m + q + 1) + 1 := by grind
        have := hr2.2.1
        omega
    refine Ev.bind en2 (Ev.bind eq (Ev.some ?_))
    rw [wrap_id (by omega : -9223372036854775808 ≤ m + q) (by omega), wrap_id (by omega) (by omega)]
    exact decide_eq_true hr3
theorem FnRootClip (l : List Int) (hg : l.length ≤ maxLen ∧ ∀ y ∈ l, (Lit.int .u8 y).wf = true) : ∃ k, laws_FnRootClip.f k l = some true := by
  have hl : l.length ≤ 9223372036854775807 := hg.1
  apply Ev.rounds
  unfold laws_FnRootClip.f
  refine Ev.b (show laws_big.f l = some _ from rfl) (Ev.ite (fun _ => Ev.some rfl) (fun _ => ?_))
  obtain ⟨n, en⟩ := root_draw l hl
  obtain ⟨r, _, er, hr, _⟩ := root_both n
  obtain ⟨t, _, et, ht, _⟩ := root_both 10
  obtain rfl : t = 3 := root_one (ht (by omega)) ⟨by omega, by omega, by omega⟩
  refine Ev.bind en (Ev.bind er (Ev.bind et (Ev.pos rfl (Ev.ite (fun h0 => Ev.ite (fun h1 => ?_) (fun _ => second l hl)) (fun _ => second l hl)))))
  have hr := hr ⟨by omega, h1⟩
  have hrs : r ≤ 2147483648 := by
    by_cases k : r ≤ 2147483648
    · exact k
    · have := sq_le (show (0 : Int) ≤ 2147483649 by omega) (show 2147483649 ≤ r by omega)
      have := hr.2.1
      omega
  have r0 := hr.1
  have r1 := hr.2.1
  have r2 := hr.2.2
  have q0 := sq0 r
  have q1 := sq0 (r + 1)
  have q2 := sq_le (show 0 ≤ r + 1 by omega) (show r + 1 ≤ 2147483649 by omega)
  rw [wrap_id (by omega : -9223372036854775808 ≤ r * r) (by omega), wrap_id (by omega : -9223372036854775808 ≤ r + 1) (by omega), wrap_id (by omega : -9223372036854775808 ≤ (r + 1) * (r + 1)) (by omega)]
  refine Ev.neg (by omega) ?_
  rw [decide_eq_false (by omega)]
  exact second l hl
end Go.Proofs.Ytpoblnigmfbnfab.PureFnRootClip
