/- The pure statement of FnByteBound: a byte's value is off by at most half a step where nothing was brought into bounds; with the scale that is calibrated on some reals none is off by more than a step. -/
import Derived.Test.YtajknaobbjlljaaPFnByteBoundx4
import Derived.Test.YtajknaobbjlljaaAidB
namespace Go.Proofs.Ytajknaobbjlljaa.Pure
open Go.RowKit Go.Proofs.Ytajknaobbjlljaa.PFnByteBound Go.Proofs.YtajknaobbjlljaaW.PrintWords Go.Proofs.YtajknaobbjlljaaW.PrintLast Go.Proofs.YtajknaobbjlljaaW.PrintMore Go.Proofs.Ytajknaobbjlljaa.AidB
/-! ### draws: whatever the bytes, they come to an end -/
theorem byte_some (l : List Int) (hl : l.length ≤ 9223372036854775807) (i h : Int) (hi : 0 ≤ i) : ∃ x i' h', spec_l1Byte.f l i h = some (x, i', h') ∧ 0 ≤ x ∧ x ≤ 255 ∧ 0 ≤ i' := by
  unfold spec_l1Byte.f
  simp only [and_255]
  by_cases h1 : i < (l.length : Int)
  · rw [if_pos h1, if_pos hi]
    refine ⟨_, _, _, rfl, by omega, by omega, ?_⟩
    rw [wrap_id] <;> omega
  · rw [if_neg h1]
    exact ⟨_, _, _, rfl, by omega, by omega, hi⟩
theorem below_some (l : List Int) (hl : l.length ≤ 9223372036854775807) (i h n : Int) (hi : 0 ≤ i) : ∃ x i' h', spec_l1Below.f l i h n = some (x, i', h') ∧ 0 ≤ x ∧ (0 < n → x < n) ∧ 0 ≤ i' := by
  unfold spec_l1Below.f
  by_cases h0 : n ≤ 0
  · rw [if_pos h0]
    exact ⟨_, _, _, rfl, by omega, by omega, hi⟩
  rw [if_neg h0]
  obtain ⟨x, i1, k1, e1, x1, x2, hi1⟩ := byte_some l hl i h hi
  obtain ⟨y, i2, k2, e2, y1, y2, hi2⟩ := byte_some l hl i1 k1 hi1
  obtain ⟨z, i3, k3, e3, z1, z2, hi3⟩ := byte_some l hl i2 k2 hi2
  obtain ⟨q, i4, k4, e4, q1, q2, hi4⟩ := byte_some l hl i3 k3 hi3
  by_cases h1 : n ≤ 256
  · rw [if_pos h1, e1]
    simp only [Option.bind_some]
    rw [if_neg (by omega)]
    exact ⟨_, _, _, rfl, Int.tmod_nonneg _ x1, fun hn => Int.tmod_lt_of_pos _ hn, hi1⟩
  · rw [if_neg h1, e1]
    simp only [Option.bind_some, e2, e3, e4]
    rw [if_neg (by omega)]
    refine ⟨_, _, _, rfl, Int.tmod_nonneg _ ?_, fun hn => Int.tmod_lt_of_pos _ hn, hi4⟩
    unfold wrap64
    omega
theorem once_some (l : List Int) (hl : l.length ≤ 9223372036854775807) (i h n : Int) (hi : 0 ≤ i) : ∃ b i' h', spec_l1Once.f l i h n = some (b, i', h') ∧ 0 ≤ i' := by
  obtain ⟨x, i1, k1, e1, _, _, hi1⟩ := below_some l hl i h n hi
  unfold spec_l1Once.f
  rw [e1]
  exact ⟨_, _, _, rfl, hi1⟩
theorem pick_some (l : List Int) (hl : l.length ≤ 9223372036854775807) (i h : Int) (list : List Int) (hi : 0 ≤ i) (hn : 0 < list.length) : ∃ x i' h', spec_l1PickInt.f l i h list = some (x, i', h') ∧ 0 ≤ i' := by
  obtain ⟨x, i1, k1, e1, x0, x1, hi1⟩ := below_some l hl i h (list.length : Int) hi
  unfold spec_l1PickInt.f
  rw [e1]
  simp only [Option.bind_some]
  rw [if_pos x0, if_pos (x1 (by omega))]
  exact ⟨_, _, _, rfl, hi1⟩
theorem new_l (l : List Int) (hl : l.length ≤ 9223372036854775807) : ∀ (d i : Nat) (h : Int), l.length - i = d → i ≤ l.length → ∃ h', Ev (fun k => spec_l1New.l0 k l h (i : Int)) (l, 0, h') := by
  intro d
  induction d with
  | zero =>
    intro i h hd hi
    exact ⟨h, Ev.succ (by simp only [spec_l1New.l0]; exact Ev.neg (by omega) (Ev.some rfl))⟩
  | succ d ih =>
    intro i h hd hi
    obtain ⟨h', e⟩ := ih (i + 1) (Go.bits .and .i64 (wrap64 ((wrap64 ((wrap64 (h * 131)) + (wrap64 (rd l (i : Int))))) + 7)) 1073741823) (by omega) (by omega)
    by_cases h4 : (i : Int) < 4000
    · refine ⟨h', Ev.succ ?_⟩
      simp only [spec_l1New.l0]
      refine Ev.pos (by omega) (Ev.pos h4 (Ev.pos (by omega) ?_))
      rw [up i (by omega : i < l.length) hl]
      exact e
    · refine ⟨h, Ev.succ ?_⟩
      simp only [spec_l1New.l0]
      exact Ev.pos (by omega) (Ev.neg h4 (Ev.some rfl))
theorem new_ev (l : List Int) (hl : l.length ≤ 9223372036854775807) : ∃ h', Ev (fun k => spec_l1New.f k l) (l, 0, h') := new_l l hl l.length 0 _ (by omega) (by omega)
theorem real_draw (l : List Int) (hl : l.length ≤ 9223372036854775807) (i h : Int) (hi : 0 ≤ i) : ∃ x i' h', spec_l14DrawReal.f l i h = some (x, i', h') ∧ 0 ≤ i' := by
  unfold spec_l14DrawReal.f
  obtain ⟨x, i1, k1, e1, x0, x1, hi1⟩ := below_some l hl i h 6 hi
  rw [e1]
  simp only [Option.bind_some]
  split
  · obtain ⟨y, i2, k2, e2, hi2⟩ := pick_some l hl i1 k1 [0, 1099511627776, (-1099511627776), 1099511627777, 65536, (-65536), 1, (-1)] hi1 (by decide)
    rw [e2]
    exact ⟨_, _, _, rfl, hi2⟩
  · split
    · obtain ⟨y, i2, k2, e2, _, _, hi2⟩ := below_some l hl i1 k1 1073741824 hi1
      rw [e2]
      exact ⟨_, _, _, rfl, hi2⟩
    · obtain ⟨y, i2, k2, e2, _, _, hi2⟩ := below_some l hl i1 k1 200000 hi1
      rw [e2]
      exact ⟨_, _, _, rfl, hi2⟩
theorem scale_j (l : List Int) (hl : l.length ≤ 9223372036854775807) (i h s z : Int) (hi : 0 ≤ i) : ∃ s' z' i' h', Ev (fun k => spec_l14DrawScale.j0 k l i h s z) (s', z', i', h') ∧ 0 ≤ i' := by
  obtain ⟨b, i1, k1, e1, hi1⟩ := once_some l hl i h 30 hi
  obtain ⟨y, i2, k2, e2, hi2⟩ := pick_some l hl i1 k1 [(-1), 256] hi1 (by decide)
  cases b with
  | true =>
    refine ⟨s, y, i2, k2, Ev.succ ?_, hi2⟩
    simp only [spec_l14DrawScale.j0]
    refine Ev.b e1 (Ev.pos rfl (Ev.b e2 (Ev.some rfl)))
  | false =>
    refine ⟨s, z, i1, k1, Ev.succ ?_, hi1⟩
    simp only [spec_l14DrawScale.j0]
    exact Ev.b e1 (Ev.neg (by simp) (Ev.some rfl))
theorem scale_draw (l : List Int) (hl : l.length ≤ 9223372036854775807) (i h : Int) (hi : 0 ≤ i) : ∃ s z i' h', Ev (fun k => spec_l14DrawScale.f k l i h) (s, z, i', h') ∧ 0 ≤ i' := by
  unfold spec_l14DrawScale.f
  obtain ⟨x, i1, k1, e1, _, _, hi1⟩ := below_some l hl i h 3000 hi
  obtain ⟨z, i2, k2, e2, _, _, hi2⟩ := below_some l hl i1 k1 256 hi1
  obtain ⟨b, i3, k3, e3, hi3⟩ := once_some l hl i2 k2 6 hi2
  obtain ⟨y, i4, k4, e4, hi4⟩ := pick_some l hl i3 k3 [1, 2, 16777216, 16777217, 1099511627776, 1099511627777, 0] hi3 (by decide)
  cases b with
  | true =>
    obtain ⟨s', z', i', h', e, hi'⟩ := scale_j l hl i4 k4 y z hi4
    exact ⟨_, _, _, _, Ev.b e1 (Ev.b e2 (Ev.b e3 (Ev.pos rfl (Ev.b e4 e)))), hi'⟩
  | false =>
    obtain ⟨s', z', i', h', e, hi'⟩ := scale_j l hl i3 k3 (wrap64 (1 + x)) z hi3
    exact ⟨_, _, _, _, Ev.b e1 (Ev.b e2 (Ev.b e3 (Ev.neg (by simp) e))), hi'⟩
theorem reals_draw (l : List Int) (hl : l.length ≤ 9223372036854775807) : ∀ (d : Nat) (acc : List Int) (i h : Int), 0 ≤ i → acc.length + d ≤ 4000 → ∃ xs i' h', Ev (fun k => spec_l14DrawReals.l0 k (d : Int) acc l i h) (xs, i', h') ∧ 0 ≤ i' ∧ xs.length ≤ 4000 := by
  intro d
  induction d with
  | zero =>
    intro acc i h hi ha
    refine ⟨acc, i, h, Ev.succ ?_, hi, by omega⟩
    simp only [spec_l14DrawReals.l0]
    exact Ev.neg (by omega) (Ev.some rfl)
  | succ d ih =>
    intro acc i h hi ha
    obtain ⟨x, i1, k1, e1, hi1⟩ := real_draw l hl i h hi
    obtain ⟨b, i2, k2, e2, hi2⟩ := once_some l hl i1 k1 8 hi1
    have hw : wrap64 ((d + 1 : Nat) - 1 : Int) = (d : Int) := by rw [wrap_id] <;> omega
    obtain ⟨c, hc⟩ : ∃ c, spec_l14Real.f x = some c := by
      unfold spec_l14Real.f spec_l5In.f
      split <;> exact ⟨_, rfl⟩
    cases c with
    | true =>
      obtain ⟨xs, i', h', e, hi', hx⟩ := ih (acc ++ [x]) i1 k1 hi1 (by simp; omega)
      refine ⟨xs, i', h', Ev.succ ?_, hi', hx⟩
      simp only [spec_l14DrawReals.l0]
      refine Ev.pos (by omega) (Ev.b e1 (Ev.b hc (Ev.pos rfl (Ev.pos (by omega) ?_))))
      rw [hw]
      exact e
    | false =>
      cases b with
      | true =>
        obtain ⟨xs, i', h', e, hi', hx⟩ := ih (acc ++ [x]) i2 k2 hi2 (by simp; omega)
        refine ⟨xs, i', h', Ev.succ ?_, hi', hx⟩
        simp only [spec_l14DrawReals.l0]
        refine Ev.pos (by omega) (Ev.b e1 (Ev.b hc (Ev.neg (by simp) (Ev.b e2 (Ev.pos rfl (Ev.pos (by omega) ?_))))))
        rw [hw]
        exact e
      | false =>
        obtain ⟨xs, i', h', e, hi', hx⟩ := ih (acc ++ [5]) i2 k2 hi2 (by simp; omega)
        refine ⟨xs, i', h', Ev.succ ?_, hi', hx⟩
        simp only [spec_l14DrawReals.l0]
        refine Ev.pos (by omega) (Ev.b e1 (Ev.b hc (Ev.neg (by simp) (Ev.b e2 (Ev.neg (by simp) (Ev.pos (by omega) ?_))))))
        rw [hw]
        exact e
theorem quant_draw (l : List Int) (hl : l.length ≤ 9223372036854775807) : ∃ s z x, Ev (fun k => spec_DrawQuantise.f k l) (s, z, x) := by
  unfold spec_DrawQuantise.f
  obtain ⟨h, e0⟩ := new_ev l hl
  obtain ⟨s, z, i1, k1, e1, hi1⟩ := scale_draw l hl 0 h (by omega)
  obtain ⟨x, i2, k2, e2, _⟩ := real_draw l hl i1 k1 hi1
  exact ⟨_, _, _, Ev.bind e0 (Ev.bind e1 (Ev.b e2 (Ev.some rfl)))⟩
theorem cal_draw (l : List Int) (hl : l.length ≤ 9223372036854775807) : ∃ xs, Ev (fun k => spec_DrawCalibrate.f k l) xs ∧ xs.length ≤ 4000 := by
  unfold spec_DrawCalibrate.f
  obtain ⟨h, e0⟩ := new_ev l hl
  obtain ⟨n, i1, k1, e1, n0, n1, hi1⟩ := below_some l hl 0 h 12 (by omega)
  obtain ⟨xs, i2, k2, e2, _, hx⟩ := reals_draw l hl n.toNat [] i1 k1 hi1 (by have := n1 (by omega); simp; omega)
  rw [Int.toNat_of_nonneg n0] at e2
  exact ⟨xs, Ev.bind e0 (Ev.b e1 (Ev.bind e2 (Ev.some rfl))), hx⟩
/-! ### rounding -/
theorem within_f (a b c : Int) : impl_within.f a b c = some (decide (b ≤ a) && decide (a ≤ c)) := by
  unfold impl_within.f
  by_cases h : b ≤ a
  · rw [if_pos (show a ≥ b from h)]
    simp [h]
  · rw [if_neg (show ¬ a ≥ b from h)]
    simp [h]
theorem scale_f (a b : Int) : impl_ScaleOk.f a b = some (decide (1 ≤ a) && decide (a ≤ 1099511627776) && (decide (0 ≤ b) && decide (b ≤ 255))) := by
  unfold impl_ScaleOk.f impl_isByte.f
  simp only [within_f, Option.bind_some]
  split
  · next h => simp [h]
  · next h => simp at h; simp; omega
theorem sscale_f (a b : Int) : spec_ScaleOk.f a b = some (decide (1 ≤ a) && decide (a ≤ 1099511627776) && (decide (0 ≤ b) && decide (b ≤ 255))) := by
  rw [← scale_f]
  unfold spec_ScaleOk.f impl_ScaleOk.f impl_isByte.f
  have : ∀ a b c, spec_l5In.f a b c = impl_within.f a b c := fun _ _ _ => rfl
  simp only [this, within_f, Option.bind_some]
theorem real_f (a : Int) : impl_isReal.f a = some (decide (-1099511627776 ≤ a) && decide (a ≤ 1099511627776)) := by
  unfold impl_isReal.f
  simp only [within_f, Option.bind_some]
theorem near_val (q r d : Int) (h0 : 0 ≤ r) (h1 : r < d) (hd : d ≤ 4611686018427387904) (hq : -4611686018427387904 ≤ q) (hq' : q ≤ 4611686018427387904) :
    ∃ v, impl_near.f q r d = some v ∧ ((v = q ∧ 2 * r ≤ d) ∨ (v = q + 1 ∧ d ≤ 2 * r)) := by
  unfold impl_near.f
  rw [wrap_id (by omega : -9223372036854775808 ≤ d - r) (by omega), wrap_id (by omega : -9223372036854775808 ≤ q + 1) (by omega)]
  by_cases h2 : r > d - r
  · rw [if_pos h2]
    exact ⟨_, rfl, .inr ⟨rfl, by omega⟩⟩
  · rw [if_neg h2]
    by_cases h3 : r = d - r
    · rw [if_pos h3]
      split
      · exact ⟨_, rfl, .inr ⟨rfl, by omega⟩⟩
      · exact ⟨_, rfl, .inl ⟨rfl, by omega⟩⟩
    · rw [if_neg h3]
      exact ⟨_, rfl, .inl ⟨rfl, by omega⟩⟩
/-- The nearest whole number: at most half of d off. -/
theorem Near_val (n d : Int) (hd : 1 ≤ d) (hd' : d ≤ 1099511627776) (hn : -4611686018427387904 < n) (hn' : n < 4611686018427387904) :
    ∃ v, Ev (fun k => impl_Near.f k n d) v ∧ 2 * (n - d * v) ≤ d ∧ -d ≤ 2 * (n - d * v) := by
  have e := Int.mul_tdiv_add_tmod n d
  have r1 := Int.tmod_lt_of_pos n (show 0 < d by omega)
  have r2 := Int.lt_tmod_of_pos n (show 0 < d by omega)
  have q1 := Int.natAbs_tdiv_le_natAbs n d
  have q2 : -4611686018427387904 < Int.tdiv n d := by omega
  have q3 : Int.tdiv n d < 4611686018427387904 := by omega
  unfold impl_Near.f
  rw [show decide (d > 4611686018427387904) = false from decide_eq_false (by omega)]
  by_cases h : Int.tmod n d < 0
  · obtain ⟨v, hv, hv'⟩ := near_val (Int.tdiv n d - 1) (Int.tmod n d + d) d (by omega) (by omega) (by omega) (by omega) (by omega)
    refine ⟨v, Ev.neg (by omega) (Ev.succ ?_), ?_⟩
    · simp only [impl_Near.j0]
      refine Ev.neg (by simp) (Ev.neg (by omega) (Ev.pos h ?_))
      rw [wrap_id (by omega : -9223372036854775808 ≤ Int.tdiv n d) (by omega), wrap_id (by omega : -9223372036854775808 ≤ Int.tdiv n d - 1) (by omega), wrap_id (by omega : -9223372036854775808 ≤ Int.tmod n d + d) (by omega)]
      exact Ev.b hv (Ev.some rfl)
    · rcases hv' with ⟨rfl, hv'⟩ | ⟨rfl, hv'⟩
      · have p : d * (Int.tdiv n d - 1) = d * Int.tdiv n d - d := by rw [Int.mul_sub, Int.mul_one]
        omega
      · rw [Int.sub_add_cancel]
        omega
  · obtain ⟨v, hv, hv'⟩ := near_val (Int.tdiv n d) (Int.tmod n d) d (by omega) (by omega) (by omega) (by omega) (by omega)
    refine ⟨v, Ev.neg (by omega) (Ev.succ ?_), ?_⟩
    · simp only [impl_Near.j0]
      refine Ev.neg (by simp) (Ev.neg (by omega) (Ev.neg h ?_))
      rw [wrap_id (by omega : -9223372036854775808 ≤ Int.tdiv n d) (by omega)]
      exact Ev.b hv (Ev.some rfl)
    · rcases hv' with ⟨rfl, hv'⟩ | ⟨rfl, hv'⟩
      · omega
      · have p : d * (Int.tdiv n d + 1) = d * Int.tdiv n d + d := by rw [Int.mul_add, Int.mul_one]
        omega
theorem bring_f (a : Int) : ∃ v, impl_bring_int.f a 0 255 = some v ∧ ((a < 0 ∧ v = 0) ∨ (255 < a ∧ v = 255) ∨ (0 ≤ a ∧ a ≤ 255 ∧ v = a)) := by
  refine ⟨_, rfl, ?_⟩
  unfold mx mn
  split <;> split <;> omega
theorem le_of_mul (d a b : Int) (hd : 0 < d) (h : d * a ≤ d * b) : a ≤ b := Int.le_of_mul_le_mul_left h hd
/-- What quantising with a right scale gives. -/
theorem quant_val (s z x : Int) (hs : 1 ≤ s) (hs' : s ≤ 1099511627776) (hz : 0 ≤ z) (hz' : z ≤ 255) (hx : -1099511627776 ≤ x) (hx' : x ≤ 1099511627776) :
    ∃ q n, Ev (fun k => impl_Quantise.f k s z x) q ∧ 2 * (x - s * n) ≤ s ∧ -s ≤ 2 * (x - s * n) ∧ ((z + n < 0 ∧ q = 0) ∨ (255 < z + n ∧ q = 255) ∨ (0 ≤ z + n ∧ z + n ≤ 255 ∧ q = z + n)) := by
  obtain ⟨n, hn, n1, n2⟩ := Near_val x s hs hs' (by omega) (by omega)
  have b1 : n ≤ 1099511627777 := by
    refine le_of_mul s _ _ (by omega) ?_
    have : s * 1 ≤ s * 1099511627777 - 1099511627776 := by omega
    omega
  have b2 : -1099511627777 ≤ n := by
    refine le_of_mul s _ _ (by omega) ?_
    omega
  obtain ⟨q, hq, hq'⟩ := bring_f (z + n)
  refine ⟨q, n, ?_, n1, n2, hq'⟩
  unfold impl_Quantise.f
  simp only [scale_f, real_f, Option.bind_some]
  refine Ev.pos (by simp; omega) (Ev.succ ?_)
  simp only [impl_Quantise.j0]
  refine Ev.neg (by simp; omega) (Ev.bind hn ?_)
  rw [wrap_id (by omega : -9223372036854775808 ≤ z + n) (by omega)]
  exact Ev.b hq (Ev.some rfl)
theorem value_val (s z q : Int) (hs : 1 ≤ s) (hs' : s ≤ 1099511627776) (hz : 0 ≤ z) (hz' : z ≤ 255) (hq : 0 ≤ q) (hq' : q ≤ 255) : impl_Value.f s z q = some (s * (q - z)) ∧ -280375465082880 ≤ s * (q - z) ∧ s * (q - z) ≤ 280375465082880 := by
  have h1 : s * (q - z) ≤ s * 255 := Int.mul_le_mul_of_nonneg_left (by omega) (by omega)
  have h2 : s * (-255) ≤ s * (q - z) := Int.mul_le_mul_of_nonneg_left (by omega) (by omega)
  refine ⟨?_, by omega, by omega⟩
  unfold impl_Value.f impl_isByte.f
  simp only [scale_f, within_f, Option.bind_some]
  rw [if_pos (by simp; omega), if_pos (by simp; omega), wrap_id (by omega : -9223372036854775808 ≤ q - z) (by omega), wrap_id (by omega : -9223372036854775808 ≤ s * (q - z)) (by omega)]
theorem quant_any (s z x : Int) : ∃ q, Ev (fun k => impl_Quantise.f k s z x) q ∧ (q = 0 ∨ (-1099511627776 ≤ x ∧ x ≤ 1099511627776)) := by
  by_cases h : (1 ≤ s ∧ s ≤ 1099511627776 ∧ 0 ≤ z ∧ z ≤ 255) ∧ -1099511627776 ≤ x ∧ x ≤ 1099511627776
  · obtain ⟨⟨h1, h2, h3, h4⟩, h5, h6⟩ := h
    obtain ⟨q, n, e, _⟩ := quant_val s z x h1 h2 h3 h4 h5 h6
    exact ⟨q, e, .inr ⟨h5, h6⟩⟩
  · refine ⟨0, ?_, .inl rfl⟩
    unfold impl_Quantise.f
    simp only [scale_f, real_f, Option.bind_some]
    refine Ev.ite (fun h1 => Ev.succ ?_) (fun _ => Ev.succ ?_)
    · simp only [impl_Quantise.j0]
      simp at h1
      exact Ev.pos (by simp; omega) (Ev.some rfl)
    · simp only [impl_Quantise.j0]
      exact Ev.pos trivial (Ev.some rfl)
/-! ### the scale of some reals -/
def realsB (l : List Int) : Bool := l.all fun x => decide (-1099511627776 ≤ x) && decide (x ≤ 1099511627776)
theorem reals_il (l : List Int) (hn : l.length ≤ 9223372036854775807) : ∀ (d i : Nat), l.length - i = d → i ≤ l.length → Ev (fun k => impl_realsOk.l0 k l l (l.length : Int) (i : Int)) (realsB (l.drop i) && (decide (0 < l.length) && decide (l.length ≤ 4096))) := by
  intro d
  induction d with
  | zero =>
    intro i hd hi
    refine Ev.succ ?_
    simp only [impl_realsOk.l0]
    refine Ev.neg (by omega) ?_
    rw [List.drop_eq_nil_of_le (by omega)]
    refine Ev.ite (fun h => Ev.some ?_) (fun h => Ev.some ?_)
    · rw [show decide (0 < l.length) = true from decide_eq_true (by omega)]
      simp only [realsB, List.all_nil, Bool.true_and]
      exact decide_eq_decide.2 (by omega)
    · rw [show decide (0 < l.length) = false from decide_eq_false (by omega)]
      rfl
  | succ d ih =>
    intro i hd hi
    refine Ev.succ ?_
    simp only [impl_realsOk.l0]
    have hlt : i < l.length := by omega
    refine Ev.pos (by omega) (Ev.pos (by omega) (Ev.pos (by omega) ?_))
    rw [rd_at hlt, up i hlt hn, real_f]
    simp only [Option.bind_some]
    rw [drop_at hlt]
    refine Ev.ite (fun h => ?_) (fun h => Ev.some ?_)
    · have := ih (i + 1) (by omega) (by omega)
      rw [show realsB (l[i] :: l.drop (i + 1)) = realsB (l.drop (i + 1)) by simp only [realsB, List.all_cons, h, Bool.true_and]]
      exact this
    · simp only [realsB, List.all_cons]
      simp only [Bool.not_eq_true] at h
      rw [h]
      rfl
theorem reals_ev (l : List Int) (hn : l.length ≤ 9223372036854775807) : Ev (fun k => impl_realsOk.f k l) (realsB l && (decide (0 < l.length) && decide (l.length ≤ 4096))) := reals_il l hn l.length 0 (by omega) (by omega)
theorem cal_l (l : List Int) (hn : l.length ≤ 9223372036854775807) (hr : realsB l = true) : ∀ (d i : Nat) (lo hi : Int), l.length - i = d → i ≤ l.length → -1099511627776 ≤ lo → lo ≤ 0 → 0 ≤ hi → hi ≤ 1099511627776 → (∀ j x, j < i → l[j]? = some x → lo ≤ x ∧ x ≤ hi) →
    ∃ s z, Ev (fun k => impl_Calibrate.l0 k lo hi l (l.length : Int) (i : Int)) (s, z, true) ∧ 1 ≤ s ∧ s ≤ 1099511627776 ∧ 0 ≤ z ∧ z ≤ 255 ∧ ∃ m, -s ≤ 2 * (m + s * z) ∧ 2 * (m + s * z) ≤ s ∧ ∀ x ∈ l, m ≤ x ∧ x ≤ m + 255 * s := by
  intro d
  induction d with
  | zero =>
    intro i lo hi hd hi' h1 h2 h3 h4 hx
    have ht : Int.tdiv (hi - lo + 254) 255 = (hi - lo + 254) / 255 := Int.tdiv_eq_ediv_of_nonneg (by omega)
    have hs : ∃ s, mx 1 (wrap64 (Int.tdiv (wrap64 ((wrap64 (hi - lo)) + 254)) 255)) = s ∧ 1 ≤ s ∧ s ≤ 1099511627776 ∧ hi - lo ≤ 255 * s := by
      refine ⟨_, rfl, ?_⟩
      rw [wrap_id (by omega : -9223372036854775808 ≤ hi - lo) (by omega), wrap_id (by omega : -9223372036854775808 ≤ hi - lo + 254) (by omega), ht, wrap_id (by omega : -9223372036854775808 ≤ (hi - lo + 254) / 255) (by omega)]
      unfold mx
      split <;> omega
    obtain ⟨s, es, s1, s2, s3⟩ := hs
    obtain ⟨z, hz, z1, z2⟩ := Near_val (-lo) s s1 s2 (by omega) (by omega)
    have z3 : 0 ≤ z := by
      have : -1 < z := Int.lt_of_mul_lt_mul_left (a := s) (by omega) (by omega)
      omega
    have z4 : z ≤ 255 := by
      have : z < 256 := Int.lt_of_mul_lt_mul_left (a := s) (by omega) (by omega)
      omega
    refine ⟨s, z, Ev.succ ?_, s1, s2, z3, z4, lo, by omega, by omega, fun x hm => ?_⟩
    · simp only [impl_Calibrate.l0]
      refine Ev.neg (by omega) ?_
      rw [es, wrap_id (by omega : -9223372036854775808 ≤ -lo) (by omega)]
      exact Ev.bind hz (Ev.some rfl)
    · obtain ⟨j, hj, rfl⟩ := List.getElem_of_mem hm
      have := hx j _ (by omega) (List.getElem?_eq_getElem hj)
      omega
  | succ d ih =>
    intro i lo hi hd hi' h1 h2 h3 h4 hx
    have hlt : i < l.length := by omega
    have hb : -1099511627776 ≤ l[i] ∧ l[i] ≤ 1099511627776 := by
      have := List.all_eq_true.1 hr l[i] (List.getElem_mem hlt)
      simpa using this
    have e1 : mn lo l[i] ≤ lo ∧ mn lo l[i] ≤ l[i] ∧ (mn lo l[i] = lo ∨ mn lo l[i] = l[i]) := by
      unfold mn
      split <;> omega
    have e2 : hi ≤ mx hi l[i] ∧ l[i] ≤ mx hi l[i] ∧ (mx hi l[i] = hi ∨ mx hi l[i] = l[i]) := by
      unfold mx
      split <;> omega
    obtain ⟨s, z, e, r⟩ := ih (i + 1) (mn lo l[i]) (mx hi l[i]) (by omega) (by omega) (by omega) (by omega) (by omega) (by omega) (fun j x hj hjx => by
      by_cases h : j < i
      · have := hx j x h hjx
        omega
      · obtain rfl : j = i := by omega
        rw [List.getElem?_eq_getElem hlt] at hjx
        obtain rfl := Option.some.inj hjx
        omega)
    refine ⟨s, z, Ev.succ ?_, r⟩
    simp only [impl_Calibrate.l0]
    refine Ev.pos (by omega) (Ev.pos (by omega) (Ev.pos (by omega) ?_))
    rw [rd_at hlt, up i hlt hn]
    exact e
theorem cal_ev (l : List Int) (hn : l.length ≤ 9223372036854775807) : Ev (fun k => impl_Calibrate.f k l) (0, 0, false) ∨
    ∃ s z, Ev (fun k => impl_Calibrate.f k l) (s, z, true) ∧ realsB l = true ∧ 0 < l.length ∧ l.length ≤ 4096 ∧ 1 ≤ s ∧ s ≤ 1099511627776 ∧ 0 ≤ z ∧ z ≤ 255 ∧ ∃ m, -s ≤ 2 * (m + s * z) ∧ 2 * (m + s * z) ≤ s ∧ ∀ x ∈ l, m ≤ x ∧ x ≤ m + 255 * s := by
  have r := reals_ev l hn
  unfold impl_Calibrate.f
  cases hB : (realsB l && (decide (0 < l.length) && decide (l.length ≤ 4096))) with
  | false =>
    rw [hB] at r
    exact .inl (Ev.bind r (Ev.neg (by simp) (Ev.some rfl)))
  | true =>
    rw [hB] at r
    simp only [Bool.and_eq_true, decide_eq_true_eq] at hB
    obtain ⟨s, z, e, h⟩ := cal_l l hn hB.1 l.length 0 0 0 (by omega) (by omega) (by omega) (by omega) (by omega) (by omega) (fun j x hj => by omega)
    exact .inr ⟨s, z, Ev.bind r (Ev.pos rfl e), hB.1, hB.2.1, hB.2.2, h⟩
theorem off_half (s z x m : Int) (hs : 1 ≤ s) (hs' : s ≤ 1099511627776) (hz : 0 ≤ z) (hz' : z ≤ 255) (hx : -1099511627776 ≤ x) (hx' : x ≤ 1099511627776) (m1 : -s ≤ 2 * (m + s * z)) (m2 : 2 * (m + s * z) ≤ s) (x1 : m ≤ x) (x2 : x ≤ m + 255 * s) :
    ∃ q, Ev (fun k => impl_Quantise.f k s z x) q ∧ 0 ≤ q ∧ q ≤ 255 ∧ x - s * (q - z) ≤ s ∧ -s ≤ x - s * (q - z) := by
  obtain ⟨q, n, e, n1, n2, h⟩ := quant_val s z x hs hs' hz hz' hx hx'
  refine ⟨q, e, ?_⟩
  rcases h with ⟨h, rfl⟩ | ⟨h, rfl⟩ | ⟨h1, h2, rfl⟩
  · have p1 : s * n ≤ s * (-z - 1) := Int.mul_le_mul_of_nonneg_left (by omega) (by omega)
    have p2 : s * (-z - 1) = -(s * z) - s := by rw [Int.mul_sub, Int.mul_neg, Int.mul_one]
    have p3 : s * (0 - z) = -(s * z) := by rw [Int.zero_sub, Int.mul_neg]
    refine ⟨by omega, by omega, ?_, ?_⟩ <;> omega
  · have p1 : s * (256 - z) ≤ s * n := Int.mul_le_mul_of_nonneg_left (by omega) (by omega)
    have p2 : s * (256 - z) = s * 256 - s * z := by rw [Int.mul_sub]
    have p3 : s * (255 - z) = s * 255 - s * z := by rw [Int.mul_sub]
    refine ⟨by omega, by omega, ?_, ?_⟩ <;> omega
  · have p3 : s * (z + n - z) = s * n := by rw [show z + n - z = n by omega]
    refine ⟨by omega, by omega, ?_, ?_⟩ <;> omega
theorem worst_l (s z m : Int) (l : List Int) (hn : l.length ≤ 9223372036854775807) (hr : realsB l = true) (hs : 1 ≤ s) (hs' : s ≤ 1099511627776) (hz : 0 ≤ z) (hz' : z ≤ 255) (m1 : -s ≤ 2 * (m + s * z)) (m2 : 2 * (m + s * z) ≤ s) (hm : ∀ x ∈ l, m ≤ x ∧ x ≤ m + 255 * s) :
    ∀ (d i : Nat) (t : Int), l.length - i = d → i ≤ l.length → 0 ≤ t → t ≤ s → ∃ v, Ev (fun k => impl_Worst.l0 k t l (l.length : Int) (i : Int) s z) v ∧ v ≤ s := by
  intro d
  induction d with
  | zero =>
    intro i t hd hi ht ht'
    refine ⟨t, Ev.succ ?_, ht'⟩
    simp only [impl_Worst.l0]
    exact Ev.neg (by omega) (Ev.some rfl)
  | succ d ih =>
    intro i t hd hi ht ht'
    have hlt : i < l.length := by omega
    have hb : -1099511627776 ≤ l[i] ∧ l[i] ≤ 1099511627776 := by
      have := List.all_eq_true.1 hr l[i] (List.getElem_mem hlt)
      simpa using this
    obtain ⟨x1, x2⟩ := hm l[i] (List.getElem_mem hlt)
    obtain ⟨q, eq, q0, q1, o1, o2⟩ := off_half s z l[i] m hs hs' hz hz' hb.1 hb.2 m1 m2 x1 x2
    obtain ⟨ev, v1, v2⟩ := value_val s z q hs hs' hz hz' q0 q1
    have w1 : wrap64 (l[i] - s * (q - z)) = l[i] - s * (q - z) := wrap_id (by omega) (by omega)
    have w2 : wrap64 (-(l[i] - s * (q - z))) = -(l[i] - s * (q - z)) := wrap_id (by omega) (by omega)
    have hmx : 0 ≤ mx (mx t (l[i] - s * (q - z))) (-(l[i] - s * (q - z))) ∧ mx (mx t (l[i] - s * (q - z))) (-(l[i] - s * (q - z))) ≤ s := by
      unfold mx
      split <;> split <;> omega
    obtain ⟨v, e, hv⟩ := ih (i + 1) _ (by omega) (by omega) hmx.1 hmx.2
    refine ⟨v, Ev.succ ?_, hv⟩
    simp only [impl_Worst.l0]
    refine Ev.pos (by omega) (Ev.pos (by omega) (Ev.pos (by omega) ?_))
    rw [rd_at hlt, up i hlt hn]
    refine Ev.bind eq (Ev.b ev ?_)
    rw [w1, w2]
    exact e
theorem abs_some (x : Int) : ∃ v, laws_abs.f x = some v := by
  unfold laws_abs.f
  split <;> exact ⟨_, rfl⟩
theorem abs_f (x : Int) (h : -9223372036854775808 < x) (h' : x ≤ 9223372036854775807) : ∃ v, laws_abs.f x = some v ∧ ((x < 0 ∧ v = -x) ∨ (0 ≤ x ∧ v = x)) := by
  unfold laws_abs.f
  by_cases e : x < 0
  · exact ⟨_, if_pos e, .inl ⟨e, wrap_id (by omega) (by omega)⟩⟩
  · exact ⟨_, if_neg e, .inr ⟨by omega, rfl⟩⟩
theorem second (l : List Int) (hl : l.length ≤ 9223372036854775807) : Ev (fun k => laws_FnByteBound.j0 k l false) true := by
  obtain ⟨xs, ex, hx⟩ := cal_draw l hl
  refine Ev.succ ?_
  simp only [laws_FnByteBound.j0]
  refine Ev.neg (by simp) (Ev.bind ex ?_)
  rcases cal_ev xs (by omega) with e | ⟨s, z, e, hr, p1, p2, s1, s2, z1, z2, m, m1, m2, hm⟩
  · exact Ev.bind e (Ev.neg (by simp) (Ev.some rfl))
  · obtain ⟨v, ev, hv⟩ := worst_l s z m xs (by omega) hr s1 s2 z1 z2 m1 m2 hm xs.length 0 0 (by omega) (by omega) (by omega) (by omega)
    refine Ev.bind e (Ev.pos rfl ?_)
    simp only [scale_f, Option.bind_some]
    refine Ev.pos (by simp; omega) (Ev.bind (a := v) ?_ (Ev.some (decide_eq_true hv)))
    unfold impl_Worst.f
    simp only [scale_f, Option.bind_some]
    have r := reals_ev xs (by omega)
    rw [hr, decide_eq_true p1, decide_eq_true p2] at r
    refine Ev.pos (by simp; omega) (Ev.bind r (Ev.succ ?_))
    simp only [impl_Worst.j0]
    exact Ev.neg (by simp) ev
theorem first (s z x q : Int) (eq : Ev (fun k => impl_Quantise.f k s z x) q) (hs : 1 ≤ s) (hs' : s ≤ 1099511627776) (hz : 0 ≤ z) (hz' : z ≤ 255) (hx : -1099511627776 ≤ x) (hx' : x ≤ 1099511627776) (q0 : 0 < q) (q1 : q < 255) :
    -s ≤ 2 * (x - s * (q - z)) ∧ 2 * (x - s * (q - z)) ≤ s := by
  obtain ⟨q', n, e, n1, n2, h⟩ := quant_val s z x hs hs' hz hz' hx hx'
  have : q' = q := by
    obtain ⟨K, e⟩ := e
    obtain ⟨K', eq⟩ := eq
    have h1 := e (max K K') (by omega)
    have h2 := eq (max K K') (by omega)
    rw [h1] at h2
    exact Option.some.inj h2
  subst this
  rcases h with ⟨h, rfl⟩ | ⟨h, rfl⟩ | ⟨h1, h2, rfl⟩
  · omega
  · omega
  · rw [show z + n - z = n by omega]
    omega
theorem FnByteBound (l : List Int) (hg : l.length ≤ maxLen ∧ ∀ y ∈ l, (Lit.int .u8 y).wf = true) : ∃ k, laws_FnByteBound.f k l = some true := by
  have hl : l.length ≤ 9223372036854775807 := hg.1
  apply Ev.rounds
  unfold laws_FnByteBound.f laws_big.f
  simp only [Option.bind_some]
  refine Ev.ite (fun _ => Ev.some rfl) (fun _ => ?_)
  obtain ⟨s, z, x, ed⟩ := quant_draw l hl
  obtain ⟨q, eq, hq⟩ := quant_any s z x
  have e6 : Ev (fun k => impl_Quantise.f k 3 0 6) 2 := by
    obtain ⟨q', n, e, n1, n2, h⟩ := quant_val 3 0 6 (by omega) (by omega) (by omega) (by omega) (by omega) (by omega)
    obtain rfl : q' = 2 := by omega
    exact e
  have v6 : impl_Value.f 3 0 2 = some 6 := (value_val 3 0 2 (by omega) (by omega) (by omega) (by omega) (by omega) (by omega)).1
  refine Ev.bind ed (Ev.bind e6 (Ev.b v6 (Ev.pos rfl (Ev.bind eq ?_))))
  simp only [sscale_f, Option.bind_some]
  have S := second l hl
  refine Ev.ite (fun hs => ?_) (fun _ => S)
  simp only [Bool.and_eq_true, decide_eq_true_eq] at hs
  obtain ⟨a, ha⟩ := abs_some x
  refine Ev.b ha (Ev.ite (fun _ => Ev.ite (fun q0 => Ev.ite (fun q1 => ?_) (fun _ => S)) (fun _ => S)) (fun _ => S))
  obtain ⟨hx, hx'⟩ : -1099511627776 ≤ x ∧ x ≤ 1099511627776 := by
    rcases hq with rfl | h
    · omega
    · exact h
  obtain ⟨ev, v1, v2⟩ := value_val s z q (by omega) (by omega) (by omega) (by omega) (by omega) (by omega)
  obtain ⟨f1, f2⟩ := first s z x q eq (by omega) (by omega) (by omega) (by omega) hx hx' q0 q1
  rw [ev]
  simp only [Option.bind_some]
  rw [wrap_id (by omega : -9223372036854775808 ≤ x - s * (q - z)) (by omega)]
  obtain ⟨b, hb, hb'⟩ := abs_f (x - s * (q - z)) (by omega) (by omega)
  refine Ev.b hb ?_
  rw [wrap_id (by omega : -9223372036854775808 ≤ 2 * b) (by omega), show decide (2 * b > s) = false from decide_eq_false (by omega)]
  exact S
end Go.Proofs.Ytajknaobbjlljaa.Pure
