/- The reference's Clip and the program's Clip answer one and the same list; out of the printed functions. -/
import Derived.Test.YtkgknnhecbbfgaaPFnExactClipx3
import Derived.Test.YtkgknnhecbbfgaaBase

namespace Go.Proofs.Ytkgknnhecbbfgaa.PureFnExactClip
set_option linter.unusedVariables false
set_option linter.unusedSimpArgs false
open Go.RowKit Go.Proofs.Ytkgknnhecbbfgaa.PFnExactClip Go.Proofs.YtkgknnhecbbfgaaW.PrintWords Go.Proofs.YtkgknnhecbbfgaaW.PrintLast Go.Proofs.YtkgknnhecbbfgaaW.PrintMore Go.Proofs.Ytkgknnhecbbfgaa.Base 
/-! ### lists of whole numbers taken over and held against each other -/
theorem toIntS_l (l : List Int) (hn : l.length ≤ 9223372036854775807) : ∀ (d i : Nat), l.length - i = d → i ≤ l.length → Ev (fun k => laws_toIntS.l0 k l (l.take i ++ List.replicate (l.length - i) 0) (i : Int)) l := by
  intro d
  induction d with
  | zero =>
    intro i hd hi
    refine Ev.succ ?_
    simp only [laws_toIntS.l0]
    refine Ev.neg (by omega) (Ev.some ?_)
    rw [hd, List.take_of_length_le (by omega)]
    simp
  | succ d ih =>
    intro i hd hi
    refine Ev.succ ?_
    simp only [laws_toIntS.l0]
    have hlt : i < l.length := by omega
    refine Ev.pos (by omega) (Ev.pos (by omega) (Ev.pos (by simp; omega) ?_))
    rw [rd_at hlt, up i hlt hn, Int.toNat_natCast, set_copy hlt]
    exact ih (i + 1) (by omega) (by omega)
theorem toIntS_ev (l : List Int) (h : l.length ≤ 35184372088832) : Ev (fun k => laws_toIntS.f k l) l := by
  unfold laws_toIntS.f
  refine Ev.pos (by omega) (Ev.pos (by omega) ?_)
  have := toIntS_l l (by omega) l.length 0 (by omega) (by omega)
  simpa using this
theorem eqIntS_l (l : List Int) (hn : l.length ≤ 9223372036854775807) : ∀ (d i : Nat), l.length - i = d → i ≤ l.length → Ev (fun k => laws_eqIntS.l0 k l l (i : Int)) true := by
  intro d
  induction d with
  | zero =>
    intro i hd hi
    refine Ev.succ ?_
    simp only [laws_eqIntS.l0]
    exact Ev.neg (by omega) (Ev.some rfl)
  | succ d ih =>
    intro i hd hi
    refine Ev.succ ?_
    simp only [laws_eqIntS.l0]
    have hlt : i < l.length := by omega
    refine Ev.pos (by omega) (Ev.pos (by omega) (Ev.pos (by omega) (Ev.pos (by trivial) ?_)))
    rw [up i hlt hn]
    exact ih (i + 1) (by omega) (by omega)
theorem eqIntS_ev (l : List Int) (h : l.length ≤ 9223372036854775807) : Ev (fun k => laws_eqIntS.f k l l) true := by
  unfold laws_eqIntS.f
  exact Ev.pos rfl (eqIntS_l l (by omega) l.length 0 (by omega) (by omega))
/-! ### marks: written into what was made, and found there again -/
def ups (a : Int) : Nat → List Int
  | 0 => []
  | n + 1 => a :: ups (a + 1) n
theorem ups_len : ∀ (n : Nat) (a : Int), (ups a n).length = n
  | 0, _ => rfl
  | n + 1, a => by simp [ups, ups_len n]
theorem ups_at : ∀ (n : Nat) (a : Int) (i : Nat) (h : i < (ups a n).length), (ups a n)[i] = a + i
  | 0, _, _, h => by simp [ups] at h
  | n + 1, a, 0, _ => by simp [ups]
  | n + 1, a, i + 1, h => by
    simp only [ups, List.getElem_cons_succ]
    rw [ups_at n (a + 1) i (by simpa [ups] using h)]
    omega
theorem set_over {β : Type} {L l : List β} {i : Nat} (h : i < L.length) (hl : l.length = L.length) : (L.take i ++ l.drop i).set i L[i] = L.take (i + 1) ++ l.drop (i + 1) := by
  have h' : i < l.length := by omega
  rw [List.drop_eq_getElem_cons h', List.set_append_right _ _ (by simp; omega), List.length_take, Nat.min_eq_left (by omega), Nat.sub_self, List.set_cons_zero, List.take_succ_eq_append_getElem h, List.append_assoc]
  rfl
theorem mark_l (l : List Int) (a : Int) (h0 : 0 ≤ a) (h1 : a + l.length ≤ 4611686018427387904) : ∀ (d i : Nat), l.length - i = d → i ≤ l.length → Ev (fun k => laws_markIntS.l0 k ((ups a l.length).take i ++ l.drop i) (a + i) (i : Int)) (a + l.length, ups a l.length) := by
  intro d
  induction d with
  | zero =>
    intro i hd hi
    refine Ev.succ ?_
    simp only [laws_markIntS.l0]
    have e : (ups a l.length).take i ++ l.drop i = ups a l.length := by
      rw [List.drop_eq_nil_of_le (by omega), List.append_nil, List.take_of_length_le (by rw [ups_len]; omega)]
    rw [e]
    exact Ev.neg (by rw [ups_len]; omega) (Ev.some (by rw [show i = l.length by omega]))
  | succ d ih =>
    intro i hd hi
    refine Ev.succ ?_
    simp only [laws_markIntS.l0]
    have hu : i < (ups a l.length).length := by rw [ups_len]; omega
    refine Ev.pos (by simp [ups_len]; omega) (Ev.pos (by omega) ?_)
    have e := set_over hu (l := l) (by rw [ups_len])
    rw [ups_at l.length a i hu] at e
    rw [Int.toNat_natCast, e, up i (by omega : i < l.length) (by omega), wrap_id (by omega) (by omega), show a + (i : Int) + 1 = a + ((i + 1 : Nat) : Int) by omega]
    exact ih (i + 1) (by omega) (by omega)
theorem mark_ev (l : List Int) (a : Int) (h0 : 0 ≤ a) (h1 : a + l.length ≤ 4611686018427387904) : Ev (fun k => laws_markIntS.f k l a) (a + l.length, ups a l.length) := by
  unfold laws_markIntS.f
  have := mark_l l a h0 h1 l.length 0 (by omega) (by omega)
  simpa using this
theorem held_l (n : Nat) (a : Int) (h0 : 0 ≤ a) (h1 : a + n ≤ 4611686018427387904) : ∀ (d i : Nat), n - i = d → i ≤ n → Ev (fun k => laws_heldIntS.l0 k (ups a n) (a + i) (i : Int)) (a + n) := by
  intro d
  induction d with
  | zero =>
    intro i hd hi
    refine Ev.succ ?_
    simp only [laws_heldIntS.l0]
    exact Ev.neg (by rw [ups_len]; omega) (Ev.some (by rw [show i = n by omega]))
  | succ d ih =>
    intro i hd hi
    refine Ev.succ ?_
    simp only [laws_heldIntS.l0]
    have hu : i < (ups a n).length := by rw [ups_len]; omega
    refine Ev.pos (by omega) (Ev.pos (by omega) ?_)
    rw [rd_at hu, ups_at n a i hu, up i (by omega : i < n) (by omega), wrap_id (by omega) (by omega), show a + (i : Int) + 1 = a + ((i + 1 : Nat) : Int) by omega]
    exact Ev.pos rfl (ih (i + 1) (by omega) (by omega))
theorem held_ev (n : Nat) (a : Int) (h0 : 0 ≤ a) (h1 : a + n ≤ 4611686018427387904) : Ev (fun k => laws_heldIntS.f k (ups a n) a) (a + n) := by
  unfold laws_heldIntS.f
  have := held_l n a h0 h1 n 0 (by omega) (by omega)
  simpa using this
theorem clone_f (l : List Int) (h : l.length < 17592186044416) : slices_Clone_int_int.f l = some l := by
  unfold slices_Clone_int_int.f
  rw [if_pos h]
theorem within_f (a b c : Int) : impl_within.f a b c = some (decide (b ≤ a) && decide (a ≤ c)) := by
  unfold impl_within.f
  split
  · next h => rw [decide_eq_true (show b ≤ a by omega), Bool.true_and]
  · next h => rw [decide_eq_false (show ¬ b ≤ a by omega), Bool.false_and]
theorem l5In_f (a b c : Int) : spec_l5In.f a b c = some (decide (b ≤ a) && decide (a ≤ c)) := within_f a b c
/-! ### the whole root, by halving both times -/
def isRoot (n r : Int) : Prop := 0 ≤ r ∧ r * r ≤ n ∧ n < (r + 1) * (r + 1)
theorem sq_le {a b : Int} (h0 : 0 ≤ a) (h : a ≤ b) : a * a ≤ b * b := Int.mul_le_mul h h h0 (by omega)
theorem root_one {n r s : Int} (h : isRoot n r) (k : isRoot n s) : r = s := by
  obtain ⟨h0, h1, h2⟩ := h
  obtain ⟨k0, k1, k2⟩ := k
  by_cases c : r < s
  · have := sq_le (show 0 ≤ r + 1 by omega) (show r + 1 ≤ s by omega)
    omega
  · by_cases c2 : s < r
    · have := sq_le (show 0 ≤ s + 1 by omega) (show s + 1 ≤ r by omega)
      omega
    · omega
theorem sroot_l (n : Int) (hn0 : 0 ≤ n) (hn : n ≤ 4611686018427387904) : ∀ (d : Nat) (lo hi : Int), (hi - lo).toNat ≤ d → 0 ≤ lo → lo < hi → hi ≤ 2147483649 → lo * lo ≤ n → n < hi * hi → ∃ r, Ev (fun k => spec_Root.l0 k n lo hi) r ∧ isRoot n r := by
  intro d
  induction d with
  | zero => intro lo hi hd h0 h1; omega
  | succ d ih =>
    intro lo hi hd h0 h1 h2 h3 h4
    by_cases c : hi - lo > 1
    · have m1 : lo < (lo + hi).tdiv 2 := by rw [Int.tdiv_eq_ediv_of_nonneg (by omega)]; omega
      have m2 : (lo + hi).tdiv 2 < hi := by rw [Int.tdiv_eq_ediv_of_nonneg (by omega)]; omega
      obtain ⟨m, hm⟩ : ∃ m, m = (lo + hi).tdiv 2 := ⟨_, rfl⟩
      rw [← hm] at m1 m2
      have q1 : m * m ≤ 2147483648 * 2147483648 := sq_le (by omega) (by omega)
      have q0 : 0 * 0 ≤ m * m := sq_le (by omega) (by omega)
      have ew : wrap64 (Int.tdiv (wrap64 (lo + hi)) 2) = m := by
        rw [wrap_id (by omega : -9223372036854775808 ≤ lo + hi) (by omega), ← hm, wrap_id (by omega) (by omega)]
      by_cases c2 : m * m ≤ n
      · obtain ⟨r, e, hr⟩ := ih m hi (by omega) (by omega) m2 h2 c2 h4
        refine ⟨r, Ev.succ ?_, hr⟩
        simp only [spec_Root.l0]
        rw [wrap_id (by omega : -9223372036854775808 ≤ hi - lo) (by omega), ew, wrap_id (by omega : -9223372036854775808 ≤ m * m) (by omega)]
        exact Ev.pos c (Ev.pos c2 e)
      · obtain ⟨r, e, hr⟩ := ih lo m (by omega) h0 m1 (by omega) h3 (by omega)
        refine ⟨r, Ev.succ ?_, hr⟩
        simp only [spec_Root.l0]
        rw [wrap_id (by omega : -9223372036854775808 ≤ hi - lo) (by omega), ew, wrap_id (by omega : -9223372036854775808 ≤ m * m) (by omega)]
        exact Ev.pos c (Ev.neg c2 e)
    · refine ⟨lo, Ev.succ ?_, h0, h3, ?_⟩
      · simp only [spec_Root.l0]
        rw [wrap_id (by omega : -9223372036854775808 ≤ hi - lo) (by omega)]
        exact Ev.neg c (Ev.some rfl)
      · rw [show lo + 1 = hi by omega]
        exact h4
theorem iroot_l (n : Int) (hn0 : 0 ≤ n) (hn : n ≤ 4611686018427387904) : ∀ (j : Nat) (r : Int), j ≤ 31 → 0 ≤ r → r ≤ 2147483648 → r * r ≤ n → n < (r + 2 * (2 ^ j : Nat)) * (r + 2 * (2 ^ j : Nat)) → ∃ s, Ev (fun k => impl_Root.l0 k n r ((2 ^ j : Nat) : Int)) s ∧ isRoot n s := by
  intro j
  induction j with
  | zero =>
    intro r hj h0 h1 h2 h3
    have step : ∀ s, isRoot n s → Ev (fun k => impl_Root.l0 k n s ((2 ^ 0 : Nat) : Int)) s → True := fun _ _ _ => trivial
    have last : ∀ s : Int, Ev (fun k => impl_Root.l0 k n s (((2 ^ 0 : Nat) : Int) / 2)) s := by
      intro s
      refine Ev.succ ?_
      simp only [impl_Root.l0]
      exact Ev.neg (by decide) (Ev.some rfl)
    have e1 : ((2 ^ 0 : Nat) : Int) = 1 := rfl
    rw [e1] at h3 last ⊢
    have w1 : wrap64 (r + 1) = r + 1 := wrap_id (by omega) (by omega)
    have q1 : (r + 1) * (r + 1) ≤ 2147483649 * 2147483649 := sq_le (by omega) (by omega)
    have q0 : 0 * 0 ≤ (r + 1) * (r + 1) := sq_le (by omega) (by omega)
    have w2 : wrap64 ((r + 1) * (r + 1)) = (r + 1) * (r + 1) := wrap_id (by omega) (by omega)
    by_cases c : (r + 1) * (r + 1) ≤ n
    · have c2 : r + 1 ≤ 2147483648 := by
        by_cases c3 : r + 1 ≤ 2147483648
        · exact c3
        · have := sq_le (show (0 : Int) ≤ 2147483649 by omega) (show 2147483649 ≤ r + 1 by omega)
          omega
      refine ⟨r + 1, Ev.succ ?_, by omega, c, by rw [show r + 1 + 1 = r + 2 * 1 by omega]; exact h3⟩
      simp only [impl_Root.l0]
      rw [w1, w2]
      exact Ev.pos (by decide) (Ev.pos c (Ev.pos c2 (last (r + 1))))
    · refine ⟨r, Ev.succ ?_, h0, h2, by omega⟩
      simp only [impl_Root.l0]
      rw [w1, w2]
      exact Ev.pos (by decide) (Ev.neg c (last r))
  | succ j ih =>
    intro r hj h0 h1 h2 h3
    have hp1 : (2 : Nat) ^ (j + 1) ≤ 2 ^ 31 := Nat.pow_le_pow_right (by decide) hj
    have hp2 : (2 : Nat) ^ (j + 1) = 2 * 2 ^ j := by rw [Nat.pow_succ, Nat.mul_comm]
    have hp0 : 0 < (2 : Nat) ^ j := Nat.pow_pos (by decide)
    have hp3 : (2 : Nat) ^ 31 = 2147483648 := by decide
    obtain ⟨p, hp⟩ : ∃ p : Nat, p = 2 ^ j := ⟨_, rfl⟩
    rw [hp2] at h3 ⊢
    rw [hp2] at hp1
    rw [← hp] at h3 hp0 hp1 ⊢
    rw [← hp] at ih
    have e2 : ((2 * p : Nat) : Int) / 2 = (p : Int) := by omega
    have w1 : wrap64 (r + ((2 * p : Nat) : Int)) = r + ((2 * p : Nat) : Int) := wrap_id (by omega) (by omega)
    by_cases c2 : r + ((2 * p : Nat) : Int) ≤ 2147483648
    · have q1 : (r + ((2 * p : Nat) : Int)) * (r + ((2 * p : Nat) : Int)) ≤ 2147483648 * 2147483648 := sq_le (by omega) (by omega)
      have q0 : 0 * 0 ≤ (r + ((2 * p : Nat) : Int)) * (r + ((2 * p : Nat) : Int)) := sq_le (by omega) (by omega)
      have w2 : wrap64 ((r + ((2 * p : Nat) : Int)) * (r + ((2 * p : Nat) : Int))) = (r + ((2 * p : Nat) : Int)) * (r + ((2 * p : Nat) : Int)) := wrap_id (by omega) (by omega)
      by_cases c : (r + ((2 * p : Nat) : Int)) * (r + ((2 * p : Nat) : Int)) ≤ n
      · obtain ⟨s, e, hs⟩ := ih (r + ((2 * p : Nat) : Int)) (by omega) (by omega) c2 c (by rw [show r + ((2 * p : Nat) : Int) + 2 * (p : Int) = r + 2 * ((2 * p : Nat) : Int) by omega]; exact h3)
        refine ⟨s, Ev.succ ?_, hs⟩
        simp only [impl_Root.l0]
        rw [w1, w2, e2]
        exact Ev.pos (by omega) (Ev.pos c (Ev.pos c2 e))
      · obtain ⟨s, e, hs⟩ := ih r (by omega) h0 h1 h2 (by rw [show r + 2 * (p : Int) = r + ((2 * p : Nat) : Int) by omega]; omega)
        refine ⟨s, Ev.succ ?_, hs⟩
        simp only [impl_Root.l0]
        rw [w1, w2, e2]
        exact Ev.pos (by omega) (Ev.neg c e)
    · have q := sq_le (show (0 : Int) ≤ 2147483649 by omega) (show 2147483649 ≤ r + ((2 * p : Nat) : Int) by omega)
      obtain ⟨s, e, hs⟩ := ih r (by omega) h0 h1 h2 (by rw [show r + 2 * (p : Int) = r + ((2 * p : Nat) : Int) by omega]; omega)
      refine ⟨s, Ev.succ ?_, hs⟩
      simp only [impl_Root.l0]
      rw [w1, e2]
      exact Ev.pos (by omega) (Ev.ite (fun _ => Ev.neg c2 e) (fun _ => e))
def rootV (n : Int) : Int → Prop := fun r => Ev (fun k => spec_Root.f k n) r ∧ Ev (fun k => impl_Root.f k n) r ∧ (0 ≤ n ∧ n ≤ 4611686018427387904 → isRoot n r) ∧ (¬ (0 ≤ n ∧ n ≤ 4611686018427387904) → r = 0)
theorem root_both (n : Int) : ∃ r, rootV n r := by
  unfold rootV spec_Root.f impl_Root.f
  by_cases h : 0 ≤ n ∧ n ≤ 4611686018427387904
  · obtain ⟨r, e1, h1⟩ := sroot_l n h.1 h.2 _ 0 2147483649 (Nat.le_refl _) (by omega) (by omega) (by omega) (by omega) (by omega)
    obtain ⟨s, e2, h2⟩ := iroot_l n h.1 h.2 31 0 (by omega) (by omega) (by omega) (by omega) (by omega)
    obtain rfl := root_one h1 h2
    have hb : (decide ((0 : Int) ≤ n) && decide (n ≤ 4611686018427387904)) = true := by simp [h.1, h.2]
    exact ⟨r, Ev.b (l5In_f _ _ _) (by rw [hb]; exact Ev.pos rfl e1), Ev.b (within_f _ _ _) (by rw [hb]; exact Ev.pos rfl e2), fun _ => h1, fun k => absurd h k⟩
  · have hb : (decide ((0 : Int) ≤ n) && decide (n ≤ 4611686018427387904)) = false := by
      rw [← Bool.decide_and]
      exact decide_eq_false h
    exact ⟨0, Ev.b (l5In_f _ _ _) (by rw [hb]; exact Ev.neg (by simp) (Ev.some rfl)), Ev.b (within_f _ _ _) (by rw [hb]; exact Ev.neg (by simp) (Ev.some rfl)), fun k => absurd k h, fun _ => rfl⟩
/-! ### gradients that can be, and how long they are -/
def gB (x : Int) : Bool := decide (-16777216 ≤ x) && decide (x ≤ 16777216)
def gradB (l : List Int) : Bool := l.all gB && decide (l.length ≤ 4096)
theorem sgrad_l (l : List Int) (hn : l.length ≤ 9223372036854775807) : ∀ (d i : Nat), l.length - i = d → i ≤ l.length → Ev (fun k => spec_l15Grad.l0 k l (i : Int)) ((l.drop i).all gB && decide (l.length ≤ 4096)) := by
  intro d
  induction d with
  | zero =>
    intro i hd hi
    refine Ev.succ ?_
    simp only [spec_l15Grad.l0]
    refine Ev.neg (by omega) (Ev.some ?_)
    rw [List.drop_eq_nil_of_le (by omega)]
    simp
    omega
  | succ d ih =>
    intro i hd hi
    have hlt : i < l.length := by omega
    refine Ev.succ ?_
    simp only [spec_l15Grad.l0]
    refine Ev.pos (by omega) (Ev.pos (by omega) ?_)
    rw [rd_at hlt, drop_at hlt, List.all_cons, up i hlt hn]
    refine Ev.b (l5In_f _ _ _) ?_
    change Ev (fun k => if gB l[i] = true then spec_l15Grad.l0 k l ((i + 1 : Nat) : Int) else some false) _
    cases gB l[i] with
    | false => exact Ev.neg (by simp) (Ev.some rfl)
    | true => exact Ev.pos rfl (ih (i + 1) (by omega) (by omega))
theorem sgrad_ev (l : List Int) (hn : l.length ≤ 9223372036854775807) : Ev (fun k => spec_l15Grad.f k l) (gradB l) := sgrad_l l hn l.length 0 (by omega) (by omega)
theorem isgrad_f (x : Int) : impl_isGrad.f x = some (gB x) := by
  unfold impl_isGrad.f
  rw [within_f]
  rfl
theorem igrad_l (l : List Int) (hn : l.length ≤ 9223372036854775807) : ∀ (d i : Nat), l.length - i = d → i ≤ l.length → Ev (fun k => impl_gradOk.l0 k l l (l.length : Int) (i : Int)) ((l.drop i).all gB && decide (l.length ≤ 4096)) := by
  intro d
  induction d with
  | zero =>
    intro i hd hi
    refine Ev.succ ?_
    simp only [impl_gradOk.l0]
    refine Ev.neg (by omega) (Ev.some ?_)
    rw [List.drop_eq_nil_of_le (by omega)]
    simp
    omega
  | succ d ih =>
    intro i hd hi
    have hlt : i < l.length := by omega
    refine Ev.succ ?_
    simp only [impl_gradOk.l0]
    refine Ev.pos (by omega) (Ev.pos (by omega) (Ev.pos (by omega) ?_))
    rw [rd_at hlt, drop_at hlt, List.all_cons, up i hlt hn]
    refine Ev.b (isgrad_f _) ?_
    cases gB l[i] with
    | false => exact Ev.neg (by simp) (Ev.some rfl)
    | true => exact Ev.pos rfl (ih (i + 1) (by omega) (by omega))
theorem igrad_ev (l : List Int) (hn : l.length ≤ 9223372036854775807) : Ev (fun k => impl_gradOk.f k l) (gradB l) := igrad_l l hn l.length 0 (by omega) (by omega)
def sumsq : List Int → Int
  | [] => 0
  | x :: xs => x * x + sumsq xs
theorem sqn {a b : Nat} (h : a ≤ b) : (a : Int) * (a : Int) ≤ (b : Int) * (b : Int) := Int.mul_le_mul (by omega) (by omega) (by omega) (by omega)
theorem gB_sq {x : Int} (h : gB x = true) : 0 ≤ x * x ∧ x * x ≤ 281474976710656 := by
  unfold gB at h
  simp only [Bool.and_eq_true, decide_eq_true_eq] at h
  have e : x * x = (x.natAbs : Int) * (x.natAbs : Int) := by rw [← Int.natCast_mul, ← Int.natAbs_mul_self]
  rw [e]
  have h1 := sqn (show x.natAbs ≤ 16777216 by omega)
  have h2 : (0 : Int) ≤ (x.natAbs : Int) * (x.natAbs : Int) := Int.mul_nonneg (by omega) (by omega)
  have h3 : ((16777216 : Nat) : Int) * ((16777216 : Nat) : Int) = 281474976710656 := by decide
  omega
theorem sumsq_le : ∀ (l : List Int), l.all gB = true → 0 ≤ sumsq l ∧ sumsq l ≤ l.length * 281474976710656
  | [], _ => by simp [sumsq]
  | x :: xs, h => by
    rw [List.all_cons, Bool.and_eq_true] at h
    have := gB_sq h.1
    have := sumsq_le xs h.2
    simp only [sumsq, List.length_cons]
    omega
theorem snorm_l (l : List Int) (hg : gradB l = true) (r : Int) (hr : Ev (fun k => spec_Root.f k (sumsq l)) r) : ∀ (d i : Nat) (s : Int), l.length - i = d → i ≤ l.length → s + sumsq (l.drop i) = sumsq l → 0 ≤ s → Ev (fun k => spec_Norm.l0 k l s (i : Int)) r := by
  have hg' := hg
  unfold gradB at hg'
  simp only [Bool.and_eq_true, decide_eq_true_eq] at hg'
  have hs := sumsq_le l hg'.1
  intro d
  induction d with
  | zero =>
    intro i s hd hi he h0
    rw [List.drop_eq_nil_of_le (by omega)] at he
    simp only [sumsq, Int.add_zero] at he
    rw [he]
    refine Ev.succ ?_
    simp only [spec_Norm.l0]
    exact Ev.neg (by omega) (Ev.bind hr (Ev.some rfl))
  | succ d ih =>
    intro i s hd hi he h0
    have hlt : i < l.length := by omega
    have hq := gB_sq (List.all_eq_true.1 hg'.1 _ (List.getElem_mem hlt))
    rw [drop_at hlt] at he
    simp only [sumsq] at he
    have hx := sumsq_le (l.drop (i + 1)) (List.all_eq_true.2 (fun x hx => List.all_eq_true.1 hg'.1 x (List.mem_of_mem_drop hx)))
    refine Ev.succ ?_
    simp only [spec_Norm.l0]
    refine Ev.pos (by omega) (Ev.bind (sgrad_ev l (by omega)) ?_)
    rw [hg]
    refine Ev.pos rfl (Ev.pos (by omega) ?_)
    rw [rd_at hlt, up i hlt (by omega), wrap_id (by omega : -9223372036854775808 ≤ l[i] * l[i]) (by omega), wrap_id (by omega : -9223372036854775808 ≤ s + l[i] * l[i]) (by omega)]
    exact ih (i + 1) _ (by omega) (by omega) (by omega) (by omega)
theorem inorm_l (l : List Int) (hg : gradB l = true) (r : Int) (hr : Ev (fun k => impl_Root.f k (sumsq l)) r) : ∀ (d i : Nat) (s : Int), l.length - i = d → i ≤ l.length → s + sumsq (l.drop i) = sumsq l → 0 ≤ s → Ev (fun k => impl_Norm.l0 k s l (l.length : Int) (i : Int)) r := by
  have hg' := hg
  unfold gradB at hg'
  simp only [Bool.and_eq_true, decide_eq_true_eq] at hg'
  have hs := sumsq_le l hg'.1
  intro d
  induction d with
  | zero =>
    intro i s hd hi he h0
    rw [List.drop_eq_nil_of_le (by omega)] at he
    simp only [sumsq, Int.add_zero] at he
    rw [he]
    refine Ev.succ ?_
    simp only [impl_Norm.l0]
    exact Ev.neg (by omega) (Ev.bind hr (Ev.some rfl))
  | succ d ih =>
    intro i s hd hi he h0
    have hlt : i < l.length := by omega
    have hq := gB_sq (List.all_eq_true.1 hg'.1 _ (List.getElem_mem hlt))
    rw [drop_at hlt] at he
    simp only [sumsq] at he
    have hx := sumsq_le (l.drop (i + 1)) (List.all_eq_true.2 (fun x hx => List.all_eq_true.1 hg'.1 x (List.mem_of_mem_drop hx)))
    refine Ev.succ ?_
    simp only [impl_Norm.l0]
    refine Ev.pos (by omega) (Ev.pos (by omega) (Ev.pos (by omega) ?_))
    rw [rd_at hlt, up i hlt (by omega), wrap_id (by omega : -9223372036854775808 ≤ l[i] * l[i]) (by omega), wrap_id (by omega : -9223372036854775808 ≤ s + l[i] * l[i]) (by omega)]
    exact ih (i + 1) _ (by omega) (by omega) (by omega) (by omega)
/-- Of a gradient that can be the norm is the root of the sum of the squares, by both. -/
theorem norm_both (l : List Int) (hg : gradB l = true) : ∃ r, isRoot (sumsq l) r ∧ Ev (fun k => spec_Norm.f k l) r ∧ Ev (fun k => impl_Norm.f k l) r := by
  have hg' := hg
  unfold gradB at hg'
  simp only [Bool.and_eq_true, decide_eq_true_eq] at hg'
  have hs := sumsq_le l hg'.1
  obtain ⟨r, h1, h2, h3, _⟩ := root_both (sumsq l)
  refine ⟨r, h3 ⟨hs.1, by omega⟩, snorm_l l hg r h1 l.length 0 0 (by omega) (by omega) (by simp) (by omega), ?_⟩
  unfold impl_Norm.f
  refine Ev.bind (igrad_ev l (by omega)) ?_
  rw [hg]
  exact Ev.pos rfl (inorm_l l hg r h2 l.length 0 0 (by omega) (by omega) (by simp) (by omega))
/-! ### rounding, the same by both -/
theorem near_j (k : Nat) (a b : Int) (x : Bool) : spec_Near.j0 k a b x = impl_Near.j0 k a b x := by
  cases k <;> rfl
theorem near_eq (k : Nat) (a b : Int) : spec_Near.f k a b = impl_Near.f k a b := by
  unfold spec_Near.f impl_Near.f
  rw [near_j, near_j]
theorem round_tot (a b c : Int) : ∃ v, impl_near.f a b c = some v := by
  unfold impl_near.f
  repeat' split
  all_goals exact ⟨_, rfl⟩
theorem near_j_tot (a b : Int) (x : Bool) (hx : x = false → b ≠ 0) : Tot (fun k => impl_Near.j0 k a b x) := by
  refine Tot.succ ?_
  simp only [impl_Near.j0]
  refine Tot.ite (fun _ => Tot.some _) (fun h => ?_)
  have hb : b ≠ 0 := hx (by simpa using h)
  obtain ⟨u, hu⟩ := round_tot (wrap64 ((wrap64 (Int.tdiv a b)) - 1)) (wrap64 ((Int.tmod a b) + b)) b
  obtain ⟨v, hv⟩ := round_tot (wrap64 (Int.tdiv a b)) (Int.tmod a b) b
  refine Tot.ite (fun h => absurd h hb) (fun _ => Tot.ite (fun _ => Tot.b hu (Tot.some _)) (fun _ => Tot.b hv (Tot.some _)))
theorem near_tot (a b : Int) : ∃ v, Ev (fun k => impl_Near.f k a b) v ∧ Ev (fun k => spec_Near.f k a b) v := by
  have t : Tot (fun k => impl_Near.f k a b) := by
    unfold impl_Near.f
    exact Tot.ite (fun _ => near_j_tot _ _ _ (by simp)) (fun h => near_j_tot _ _ _ (fun _ => by omega))
  obtain ⟨v, h⟩ := t
  exact ⟨v, h, Ev.same (fun k => near_eq k a b) h⟩
/-! ### clipping -/
theorem nears (most norm : Int) : ∃ g : Int → Int, ∀ x, Ev (fun k => impl_Near.f k (wrap64 (x * most)) norm) (g x) ∧ Ev (fun k => spec_Near.f k (wrap64 (x * most)) norm) (g x) :=
  ⟨fun x => (near_tot (wrap64 (x * most)) norm).choose, fun x => (near_tot (wrap64 (x * most)) norm).choose_spec⟩
theorem sclip_l (l : List Int) (most norm : Int) (hn : l.length ≤ 4096) (g : Int → Int) (hg : ∀ x, Ev (fun k => spec_Near.f k (wrap64 (x * most)) norm) (g x)) :
    ∀ (d i : Nat) (out : List Int), l.length - i = d → i ≤ l.length → out.length = i → Ev (fun k => spec_Clip.l0 k l most out norm (i : Int)) (out ++ (l.drop i).map (fun x => if norm > most then g x else x)) := by
  intro d
  induction d with
  | zero =>
    intro i out hd hi ho
    refine Ev.succ ?_
    simp only [spec_Clip.l0]
    refine Ev.neg (by omega) (Ev.some ?_)
    rw [List.drop_eq_nil_of_le (by omega)]
    simp
  | succ d ih =>
    intro i out hd hi ho
    have hlt : i < l.length := by omega
    refine Ev.succ ?_
    simp only [spec_Clip.l0]
    refine Ev.pos (by omega) (Ev.pos (by omega) ?_)
    rw [rd_at hlt, drop_at hlt, List.map_cons, up i hlt (by omega)]
    refine Ev.ite (fun h => ?_) (fun h => ?_)
    · rw [if_pos h]
      refine Ev.bind (hg _) (Ev.pos (by omega) ?_)
      have := ih (i + 1) (out ++ [g l[i]]) (by omega) (by omega) (by simp [ho])
      rw [List.append_assoc] at this
      exact this
    · rw [if_neg h]
      refine Ev.pos (by omega) ?_
      have := ih (i + 1) (out ++ [l[i]]) (by omega) (by omega) (by simp [ho])
      rw [List.append_assoc] at this
      exact this
theorem iclip_l (l : List Int) (most norm : Int) (hn : l.length ≤ 4096) (g : Int → Int) (hg : ∀ x, Ev (fun k => impl_Near.f k (wrap64 (x * most)) norm) (g x)) :
    ∀ (d i : Nat), l.length - i = d → i ≤ l.length → Ev (fun k => impl_Clip.l0 k l most norm ((l.map g).take i ++ List.replicate ((l.map g).length - i) 0) (i : Int)) (l.map g) := by
  have hl : (l.map g).length = l.length := List.length_map _
  intro d
  induction d with
  | zero =>
    intro i hd hi
    refine Ev.succ ?_
    simp only [impl_Clip.l0]
    refine Ev.neg (by omega) (Ev.some ?_)
    rw [show (l.map g).length - i = 0 by omega, List.take_of_length_le (by omega)]
    simp
  | succ d ih =>
    intro i hd hi
    have hlt : i < l.length := by omega
    have hlt' : i < (l.map g).length := by omega
    refine Ev.succ ?_
    simp only [impl_Clip.l0]
    refine Ev.pos (by omega) (Ev.pos (by omega) (Ev.pos (by simp; omega) ?_))
    rw [rd_at hlt]
    refine Ev.bind (hg l[i]) ?_
    have e := set_fill (z := (0 : Int)) hlt'
    rw [List.getElem_map] at e
    rw [up i hlt (by omega), Int.toNat_natCast, e]
    exact ih (i + 1) (by omega) (by omega)
theorem clip_both (l : List Int) (most : Int) (h : l.length ≤ 1048576) : ∃ v, Ev (fun k => spec_Clip.f k l most) v ∧ Ev (fun k => impl_Clip.f k l most) v ∧ v.length ≤ 1048576 := by
  have s0 : Ev (fun k => spec_Clip.j0 k l most [] true) [] := by
    refine Ev.succ ?_
    simp only [spec_Clip.j0]
    exact Ev.pos (by trivial) (Ev.some rfl)
  have t1 := sgrad_ev l (by omega)
  have t2 := igrad_ev l (by omega)
  have u1 := l5In_f most 0 1073741824
  have u2 := within_f most 0 1073741824
  unfold spec_Clip.f impl_Clip.f
  cases hg : gradB l with
  | false =>
    rw [hg] at t1 t2
    exact ⟨[], Ev.b rfl (Ev.bind t1 (Ev.neg (by simp) s0)), Ev.bind t2 (Ev.neg (by simp) (Ev.some rfl)), by simp⟩
  | true =>
    rw [hg] at t1 t2
    cases hb : (decide ((0 : Int) ≤ most) && decide (most ≤ 1073741824)) with
    | false =>
      rw [hb] at u1 u2
      exact ⟨[], Ev.b rfl (Ev.bind t1 (Ev.pos rfl (Ev.b u1 s0))), Ev.bind t2 (Ev.pos rfl (Ev.b u2 (Ev.neg (by simp) (Ev.some rfl)))), by simp⟩
    | true =>
      rw [hb] at u1 u2
      have hn : l.length ≤ 4096 := by
        unfold gradB at hg
        simp only [Bool.and_eq_true, decide_eq_true_eq] at hg
        exact hg.2
      obtain ⟨norm, _, n1, n2⟩ := norm_both l hg
      obtain ⟨g, hgg⟩ := nears most norm
      have e1 := sclip_l l most norm hn g (fun x => (hgg x).2) l.length 0 [] (by omega) (by omega) rfl
      have e2 := iclip_l l most norm hn g (fun x => (hgg x).1) l.length 0 (by omega) (by omega)
      rw [List.drop_zero, List.nil_append] at e1
      refine ⟨l.map (fun x => if norm > most then g x else x), Ev.b rfl (Ev.bind t1 (Ev.pos rfl (Ev.b u1 (Ev.succ ?_)))), Ev.bind t2 (Ev.pos rfl (Ev.b u2 (Ev.pos rfl (Ev.bind n2 ?_)))), by rw [List.length_map]; exact h⟩
      · simp only [spec_Clip.j0]
        exact Ev.neg (by simp) (Ev.bind n1 e1)
      · refine Ev.ite (fun c => ?_) (fun c => ?_)
        · refine Ev.k ?_
          have : (fun x => if norm > most then g x else x) = (id : Int → Int) := by
            funext x
            rw [if_neg (by omega)]
            rfl
          rw [this, List.map_id]
          exact clone_f l (by omega)
        · have : (fun x => if norm > most then g x else x) = g := by
            funext x
            rw [if_pos (by omega)]
          rw [this]
          refine Ev.pos (by omega) ?_
          simpa using e2
theorem FnExactClip (l : List Int) (most : Int) : ∃ k, laws_FnExactClip.f k l most = some true := by
  apply Ev.rounds
  unfold laws_FnExactClip.f
  refine Ev.ite (fun _ => Ev.some rfl) (fun h => ?_)
  have t := toIntS_ev l (by omega)
  obtain ⟨v, es, ei, hv⟩ := clip_both l most (by omega)
  have ev := eqIntS_ev v (by omega)
  have mv := mark_ev v 1 (by omega) (by omega)
  have gv := held_ev v.length 1 (by omega) (by omega)
  refine Ev.bind t (Ev.bind es (Ev.bind t (Ev.bind ei (Ev.bind ev (Ev.pos rfl (Ev.bind t (Ev.bind (eqIntS_ev l (by omega)) (Ev.pos rfl (Ev.bind (mark_ev l 1 (by omega) (by omega)) (Ev.neg (by simp; omega) (Ev.bind ev (Ev.succ ?_))))))))))))
  simp only [laws_FnExactClip.j0]
  exact Ev.neg (by simp) (Ev.bind mv (Ev.bind gv (Ev.neg (by omega) (Ev.pos rfl (Ev.bind t (Ev.bind ei (Ev.bind ev (Ev.pos rfl (Ev.bind gv (Ev.neg (by omega) (Ev.pos rfl (Ev.some rfl))))))))))))
end Go.Proofs.Ytkgknnhecbbfgaa.PureFnExactClip
