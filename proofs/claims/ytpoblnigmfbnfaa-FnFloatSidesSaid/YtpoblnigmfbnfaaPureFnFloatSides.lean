/- Sums and products of floats do not mind which comes first, less is one way alone, the opposite of the opposite is it; no condition. -/
import Derived.Test.YtpoblnigmfbnfaaPFnFloatSidesx
import Derived.Test.YtpoblnigmfbnfaaBase

namespace Go.Proofs.Ytpoblnigmfbnfaa.PureFnFloatSides
set_option linter.unusedVariables false
set_option linter.unusedSimpArgs false
open Go.RowKit Go.Proofs.Ytpoblnigmfbnfaa.PFnFloatSides Go.Proofs.YtpoblnigmfbnfaaW.PrintWords Go.Proofs.YtpoblnigmfbnfaaW.PrintLast Go.Proofs.YtpoblnigmfbnfaaW.PrintMore Go.Proofs.Ytpoblnigmfbnfaa.Base 
/-! ### draws: whatever the bytes, they come to an end -/
theorem byte_some (l : List Int) (hl : l.length ≤ 9223372036854775807) (i h : Int) (hi : 0 ≤ i) : ∃ x i' h', spec_l1Byte.f l i h = some (x, i', h') ∧ 0 ≤ x ∧ x ≤ 255 ∧ 0 ≤ i' := by
  unfold spec_l1Byte.f
  simp only [and_255]
  by_cases h1 : i < (l.length : Int)
  · rw [if_pos h1, if_pos hi]
    refine ⟨_, _, _, rfl, by omega, by omega, ?_⟩
    rw [wrap_id] <;> omega
  · rw [if_neg h1]
    exact ⟨_, _, _, rfl, by omega, by omega, hi⟩
theorem below_some (l : List Int) (hl : l.length ≤ 9223372036854775807) (i h n : Int) (hi : 0 ≤ i) : ∃ x i' h', spec_l1Below.f l i h n = some (x, i', h') ∧ 0 ≤ x ∧ (0 < n → x < n) ∧ 0 ≤ i' := by
  unfold spec_l1Below.f
  by_cases h0 : n ≤ 0
  · rw [if_pos h0]
    exact ⟨_, _, _, rfl, by omega, by omega, hi⟩
  rw [if_neg h0]
  obtain ⟨x, i1, k1, e1, x1, x2, hi1⟩ := byte_some l hl i h hi
  obtain ⟨y, i2, k2, e2, y1, y2, hi2⟩ := byte_some l hl i1 k1 hi1
  obtain ⟨z, i3, k3, e3, z1, z2, hi3⟩ := byte_some l hl i2 k2 hi2
  obtain ⟨q, i4, k4, e4, q1, q2, hi4⟩ := byte_some l hl i3 k3 hi3
  by_cases h1 : n ≤ 256
  · rw [if_pos h1, e1]
    simp only [Option.bind_some]
    rw [if_neg (by omega)]
    exact ⟨_, _, _, rfl, Int.tmod_nonneg _ x1, fun hn => Int.tmod_lt_of_pos _ hn, hi1⟩
  · rw [if_neg h1, e1]
    simp only [Option.bind_some, e2, e3, e4]
    rw [if_neg (by omega)]
    refine ⟨_, _, _, rfl, Int.tmod_nonneg _ ?_, fun hn => Int.tmod_lt_of_pos _ hn, hi4⟩
    unfold wrap64
    omega
theorem pick_some (l : List Int) (hl : l.length ≤ 9223372036854775807) (i h : Int) (list : List Int) (hi : 0 ≤ i) (hn : 0 < list.length) : ∃ x i' h', spec_l1PickInt.f l i h list = some (x, i', h') ∧ 0 ≤ i' := by
  obtain ⟨x, i1, k1, e1, x0, x1, hi1⟩ := below_some l hl i h (list.length : Int) hi
  unfold spec_l1PickInt.f
  rw [e1]
  simp only [Option.bind_some]
  rw [if_pos x0, if_pos (x1 (by omega))]
  exact ⟨_, _, _, rfl, hi1⟩
theorem new_l (l : List Int) (hl : l.length ≤ 9223372036854775807) : ∀ (d i : Nat) (h : Int), l.length - i = d → i ≤ l.length → ∃ h', Ev (fun k => spec_l1New.l0 k l h (i : Int)) (l, 0, h') := by
  intro d
  induction d with
  | zero =>
    intro i h hd hi
    exact ⟨h, Ev.succ (by simp only [spec_l1New.l0]; exact Ev.neg (by omega) (Ev.some rfl))⟩
  | succ d ih =>
    intro i h hd hi
    obtain ⟨h', e⟩ := ih (i + 1) (Go.bits .and .i64 (wrap64 ((wrap64 ((wrap64 (h * 131)) + (wrap64 (rd l (i : Int))))) + 7)) 1073741823) (by omega) (by omega)
    by_cases h4 : (i : Int) < 4000
    · refine ⟨h', Ev.succ ?_⟩
      simp only [spec_l1New.l0]
      refine Ev.pos (by omega) (Ev.pos h4 (Ev.pos (by omega) ?_))
      rw [up i (by omega : i < l.length) hl]
      exact e
    · refine ⟨h, Ev.succ ?_⟩
      simp only [spec_l1New.l0]
      exact Ev.pos (by omega) (Ev.neg h4 (Ev.some rfl))
theorem new_ev (l : List Int) (hl : l.length ≤ 9223372036854775807) : ∃ h', Ev (fun k => spec_l1New.f k l) (l, 0, h') := new_l l hl l.length 0 _ (by omega) (by omega)
/-! ### rounding: the model's word, and the reference's, which knows only that something more is there -/
/-- N / 2^s to the nearest whole number, ties to even. -/
def rne (N s : Nat) : Nat := N / 2 ^ s + (if 2 ^ s < 2 * (N % 2 ^ s) ∨ (2 ^ s = 2 * (N % 2 ^ s) ∧ N / 2 ^ s % 2 = 1) then 1 else 0)
theorem rne_zero (N : Nat) : rne N 0 = N := by
  unfold rne
  rw [Nat.pow_zero, Nat.mod_one, Nat.div_one, if_neg (by omega)]
  rfl
theorem rne_small {N s : Nat} (h : 2 * N < 2 ^ s) : rne N s = 0 := by
  unfold rne
  rw [Nat.mod_eq_of_lt (by omega), Nat.div_eq_of_lt (by omega), if_neg (by omega)]
theorem rne_scale (N c s : Nat) : rne (N * 2 ^ c) (s + c) = rne N s := by
  unfold rne
  have hc : 0 < (2 : Nat) ^ c := Nat.pow_pos (by decide)
  rw [Nat.pow_add, Nat.mul_div_mul_right _ _ hc, Nat.mul_mod_mul_right]
  have h1 : (2 ^ s * 2 ^ c < 2 * (N % 2 ^ s * 2 ^ c)) ↔ 2 ^ s < 2 * (N % 2 ^ s) := by
    rw [← Nat.mul_assoc]
    exact ⟨fun h => Nat.lt_of_mul_lt_mul_right h, fun h => Nat.mul_lt_mul_of_pos_right h hc⟩
  have h2 : (2 ^ s * 2 ^ c = 2 * (N % 2 ^ s * 2 ^ c)) ↔ 2 ^ s = 2 * (N % 2 ^ s) := by
    rw [← Nat.mul_assoc]
    exact ⟨fun h => Nat.eq_of_mul_eq_mul_right hc h, fun h => by rw [← h]⟩
  simp only [h1, h2]
theorem cut_even (b : Bool) (n d : Nat) : Ieee.Toward.even.cut b n d = rne n d := by
  unfold Ieee.Toward.cut
  simp only [Nat.one_shiftLeft]
  have hl : n < 2 ^ (n.log2 + 1) := Nat.lt_log2_self
  by_cases h : d ≤ n.log2 + 2
  · rw [Nat.min_eq_left h]
    unfold rne
    congr 1
    by_cases h1 : 2 ^ d < 2 * (n % 2 ^ d)
    · rw [if_pos (.inl h1)]
      simp [h1]
    · by_cases h2 : 2 ^ d = 2 * (n % 2 ^ d) ∧ n / 2 ^ d % 2 = 1
      · rw [if_pos (.inr h2), ← h2.1, h2.2]
        simp
      · rw [if_neg (by rintro (h | h); exact h1 h; exact h2 h)]
        have : (2 ^ d == 2 * (n % 2 ^ d) && n / 2 ^ d % 2 == 1) = false := by
          rw [Bool.eq_false_iff]
          intro hh
          simp only [Bool.and_eq_true, beq_iff_eq] at hh
          exact h2 hh
        rw [this]
        simp [h1]
  · rw [Nat.min_eq_right (by omega)]
    have h2 : 2 * n < 2 ^ (n.log2 + 2) := by
      rw [Nat.pow_succ]
      omega
    have h3 : 2 ^ (n.log2 + 2) < 2 ^ d := Nat.pow_lt_pow_right (by decide) (by omega)
    rw [rne_small (by omega), Nat.mod_eq_of_lt (by omega), Nat.div_eq_of_lt (by omega)]
    have h4 : ¬ 2 ^ (n.log2 + 2) < 2 * n := by omega
    have h5 : (2 ^ (n.log2 + 2) == 2 * n) = false := by
      rw [beq_eq_false_iff_ne]
      omega
    simp [h4, h5]
/-- m * 2^-k with something more (or not) behind, to the nearest, ties to even: the reference's way. -/
def hs (m k : Nat) (more : Bool) : Nat :=
  if k = 0 then m else
  if m / 2 ^ (k - 1) % 2 = 1 ∧ ((more || decide (m % 2 ^ (k - 1) ≠ 0)) = true ∨ m / 2 ^ (k - 1) / 2 % 2 = 1) then m / 2 ^ (k - 1) / 2 + 1 else m / 2 ^ (k - 1) / 2
theorem hs_rne (N D k : Nat) (hk : k ≠ 0) : hs (N / 2 ^ D) k (decide (N % 2 ^ D ≠ 0)) = rne N (k + D) := by
  obtain ⟨j, rfl⟩ : ∃ j, k = j + 1 := ⟨k - 1, by omega⟩
  unfold hs rne
  rw [if_neg (by omega)]
  simp only [Nat.add_sub_cancel]
  have hA : 0 < (2 : Nat) ^ D := Nat.pow_pos (by decide)
  have hB : 0 < (2 : Nat) ^ j := Nat.pow_pos (by decide)
  have e2 : (2 : Nat) ^ (j + 1 + D) = 2 ^ D * (2 ^ j * 2) := by
    rw [show j + 1 + D = D + (j + 1) by omega, Nat.pow_add, Nat.pow_succ]
  rw [e2, ← Nat.div_div_eq_div_mul, Nat.mod_mul, Nat.mod_mul (x := N / 2 ^ D), ← Nat.div_div_eq_div_mul]
  generalize N / 2 ^ D / 2 ^ j = q
  generalize hs' : N / 2 ^ D % 2 ^ j = s
  generalize hr' : N % 2 ^ D = r
  have hs1 : s < 2 ^ j := hs' ▸ Nat.mod_lt _ hB
  have hr1 : r < 2 ^ D := hr' ▸ Nat.mod_lt _ hA
  generalize (2 : Nat) ^ D = A at *
  generalize (2 : Nat) ^ j = B at *
  have hsA : A * s + r < A * B := by
    have : A * (s + 1) ≤ A * B := Nat.mul_le_mul_left _ hs1
    rw [Nat.mul_succ] at this
    omega
  have e3 : A * (B * 2) = 2 * (A * B) := by rw [← Nat.mul_assoc, Nat.mul_comm]
  have e4 : A * (s + B * (q % 2)) = A * s + A * B * (q % 2) := by rw [Nat.mul_add, Nat.mul_assoc]
  rw [e3, e4]
  have hm : (more : Bool) → True := fun _ => trivial
  have hz : (decide (r ≠ 0) || decide (s ≠ 0)) = true ↔ 0 < A * s + r := by
    simp only [Bool.or_eq_true, decide_eq_true_eq]
    constructor
    · rintro (h | h)
      · omega
      · have : 0 < A * s := Nat.mul_pos hA (by omega)
        omega
    · intro h
      by_cases h0 : s = 0
      · subst h0
        left
        omega
      · exact .inr h0
  simp only [hz]
  generalize A * s = t at *
  generalize A * B = C at *
  rcases Nat.mod_two_eq_zero_or_one q with h | h
  · rw [h, if_neg (by omega), if_neg (by omega)]
    rfl
  · rw [h]
    simp only [Nat.mul_one]
    by_cases h0 : 0 < t + r
    · rw [if_pos ⟨trivial, .inl h0⟩, if_pos (.inl (by omega))]
    · by_cases h1 : q / 2 % 2 = 1
      · rw [if_pos ⟨trivial, .inr h1⟩, if_pos (.inr ⟨by omega, h1⟩)]
      · rw [if_neg (by rintro ⟨_, h | h⟩; exact h0 h; exact h1 h), if_neg (by rintro (h | ⟨_, h⟩); omega; exact h1 h)]
        rfl
theorem hs_false (m k : Nat) : hs m k false = rne m k := by
  by_cases hk : k = 0
  · subst hk
    rw [rne_zero]
    rfl
  · have := hs_rne m 0 k hk
    rw [Nat.pow_zero, Nat.mod_one, Nat.div_one] at this
    simpa using this
theorem rne_ge {N s j : Nat} (h : 2 ^ (j + s) ≤ N) : 2 ^ j ≤ rne N s := by
  have h1 : 2 ^ j ≤ N / 2 ^ s := by
    rw [Nat.le_div_iff_mul_le (Nat.pow_pos (by decide)), ← Nat.pow_add]
    exact h
  unfold rne
  omega
theorem log2_of {n j : Nat} (h0 : 2 ^ j ≤ n) (h1 : n < 2 ^ (j + 1)) : n.log2 = j := by
  have hn : n ≠ 0 := by have : 0 < (2 : Nat) ^ j := Nat.pow_pos (by decide); omega
  have a := (Nat.le_log2 hn).2 h0
  have b := (Nat.log2_lt hn).2 h1
  omega
theorem log2_lo {n : Nat} (h : n ≠ 0) : 2 ^ n.log2 ≤ n := Nat.log2_self_le h
theorem log2_hi (n : Nat) : n < 2 ^ (n.log2 + 1) := Nat.lt_log2_self
theorem log2_shift {m D N : Nat} (hm : m ≠ 0) (h : N / 2 ^ D = m) : N.log2 = m.log2 + D := by
  have hD : 0 < (2 : Nat) ^ D := Nat.pow_pos (by decide)
  have h0 := log2_lo hm
  have h1 := log2_hi m
  apply log2_of
  · rw [Nat.pow_add]
    exact (Nat.le_div_iff_mul_le hD).1 (by omega)
  · rw [show m.log2 + D + 1 = m.log2 + 1 + D by omega, Nat.pow_add]
    exact (Nat.div_lt_iff_lt_mul hD).1 (by omega)
theorem log2_mul (m D : Nat) (hm : m ≠ 0) : (m * 2 ^ D).log2 = m.log2 + D := log2_shift hm (Nat.mul_div_cancel _ (Nat.pow_pos (by decide)))
/-- The last place that is kept. -/
def lastP (N : Nat) (p : Int) : Int := max (p + N.log2 - 23) (-149)
/-- The rung of N * 2^p. -/
def mag (N : Nat) (p : Int) : Nat :=
  if N = 0 then 0 else min ((lastP N p + 149).toNat * 8388608 + rne (N * 2 ^ (p - lastP N p).toNat) (lastP N p - p).toNat) 2139095040
theorem nearest_mag (neg : Bool) (N : Nat) (p : Int) : Ieee.single.nearest neg N p = Ieee.single.word neg (mag N p) := by
  unfold Ieee.Format.nearest mag
  by_cases h : N = 0
  · rw [if_pos h, if_pos h]
  · rw [if_neg h, if_neg h]
    simp only [cut_even, Nat.shiftLeft_eq]
    have e1 : Ieee.single.leastPlace = -149 := by simp [Ieee.Format.leastPlace, Ieee.single]
    have e2 : Ieee.single.binade = 8388608 := by simp [Ieee.Format.binade, Ieee.single]
    have e3 : Ieee.single.infRung = 2139095040 := by simp [Ieee.Format.infRung, Ieee.Format.binade, Ieee.single]
    have e4 : ((Ieee.single.fractionBits : Nat) : Int) = 23 := rfl
    rw [e1, e2, e3, e4, Int.sub_neg]
    unfold lastP
    trivial
theorem mag_le (N : Nat) (p : Int) : mag N p ≤ 2139095040 := by
  unfold mag
  split
  · omega
  · exact Nat.min_le_right _ _
theorem mag_scale (N c : Nat) (p : Int) : mag (N * 2 ^ c) (p - c) = mag N p := by
  have hc : 0 < (2 : Nat) ^ c := Nat.pow_pos (by decide)
  by_cases h : N = 0
  · subst h
    rw [Nat.zero_mul]
    unfold mag
    rw [if_pos rfl, if_pos rfl]
  · have h' : N * 2 ^ c ≠ 0 := Nat.mul_ne_zero h (by omega)
    have el : lastP (N * 2 ^ c) (p - c) = lastP N p := by
      unfold lastP
      rw [log2_mul N c h]
      congr 1
      omega
    unfold mag
    rw [if_neg h, if_neg h', el]
    generalize lastP N p = L
    congr 2
    by_cases h1 : L ≤ p - c
    · rw [show (L - (p - c)).toNat = 0 by omega, show (L - p).toNat = 0 by omega, rne_zero, rne_zero, Nat.mul_assoc, ← Nat.pow_add]
      congr 2
      omega
    · rw [show (p - c - L).toNat = 0 by omega, Nat.pow_zero, Nat.mul_one]
      by_cases h2 : L ≤ p
      · have e : N * 2 ^ c = N * 2 ^ (p - L).toNat * 2 ^ (L - (p - c)).toNat := by
          rw [Nat.mul_assoc, ← Nat.pow_add]
          congr 2
          omega
        rw [e, show (L - (p - c)).toNat = 0 + (L - (p - c)).toNat by omega, show (L - p).toNat = 0 by omega]
        have := rne_scale (N * 2 ^ (p - L).toNat) (L - (p - c)).toNat 0
        rw [Nat.zero_add] at this ⊢
        exact this
      · rw [show (p - L).toNat = 0 by omega, Nat.pow_zero, Nat.mul_one, show (L - (p - c)).toNat = (L - p).toNat + c by omega]
        exact rne_scale N c _
/-- How many binary digits. -/
def bl (m : Nat) : Nat := if m = 0 then 0 else m.log2 + 1
/-- The reference's close: the magnitude of m (and something more) times 2^e. -/
def closeV (m : Nat) (e : Int) (more : Bool) : Nat :=
  let last := max (e + bl m - 24) (-149)
  let kept := if last < e then m * 2 ^ (e - last).toNat else if last - e > 62 then 0 else hs m (last - e).toNat more
  min (if kept = 16777216 then (last + 151).toNat * 8388608 else if 8388608 ≤ kept then kept - 8388608 + (last + 150).toNat * 8388608 else kept) 2139095040
theorem close_mag (N D : Nat) (e : Int) (hm : N / 2 ^ D < 2 ^ 62) (hbig : N % 2 ^ D ≠ 0 → 33554432 ≤ N / 2 ^ D) :
    closeV (N / 2 ^ D) e (decide (N % 2 ^ D ≠ 0)) = mag N (e - D) := by
  have hD : 0 < (2 : Nat) ^ D := Nat.pow_pos (by decide)
  have hdm := Nat.div_add_mod N (2 ^ D)
  by_cases h : N = 0
  · subst h
    rw [Nat.zero_div, Nat.zero_mod]
    unfold closeV mag
    simp [bl, hs]
  · have hm0 : N / 2 ^ D ≠ 0 := by
      intro h0
      rw [h0, Nat.mul_zero] at hdm
      have := hbig (by omega)
      omega
    have hlog := log2_shift hm0 rfl
    have hlo := log2_lo h
    generalize hmm : N / 2 ^ D = m at *
    have ebl : bl m = m.log2 + 1 := by
      unfold bl
      rw [if_neg hm0]
    have elast : max (e + bl m - 24) (-149) = lastP N (e - D) := by
      unfold lastP
      rw [hlog, ebl]
      congr 1
      omega
    have hL : lastP N (e - D) = -149 ∨ (lastP N (e - D) = e + m.log2 - 23 ∧ -149 < lastP N (e - D)) := by
      unfold lastP
      rw [hlog]
      omega
    have hL0 : -149 ≤ lastP N (e - D) := by unfold lastP; omega
    have hL1 : e + m.log2 - 23 ≤ lastP N (e - D) := by
      unfold lastP
      rw [hlog]
      omega
    unfold closeV mag
    rw [if_neg h]
    simp only [elast]
    generalize lastP N (e - D) = L at *
    have hbl : N % 2 ^ D ≠ 0 → 25 ≤ m.log2 := by
      intro h1
      exact (Nat.le_log2 hm0).2 (hbig h1)
    have hkept : (if L < e then m * 2 ^ (e - L).toNat else if L - e > 62 then 0 else hs m (L - e).toNat (decide (N % 2 ^ D ≠ 0))) = rne (N * 2 ^ (e - D - L).toNat) (L - (e - D)).toNat := by
      by_cases h1 : L < e
      · rw [if_pos h1]
        have hr : N % 2 ^ D = 0 := by
          by_cases hr : N % 2 ^ D = 0
          · exact hr
          · have := hbl hr
            omega
        rw [hr, Nat.add_zero, Nat.mul_comm] at hdm
        rw [← hdm]
        by_cases h2 : L ≤ e - D
        · rw [show (L - (e - D)).toNat = 0 by omega, rne_zero, Nat.mul_assoc, ← Nat.pow_add]
          congr 2
          omega
        · rw [show (e - D - L).toNat = 0 by omega, Nat.pow_zero, Nat.mul_one]
          have e1 : m * 2 ^ D = m * 2 ^ (e - L).toNat * 2 ^ (L - (e - D)).toNat := by
            rw [Nat.mul_assoc, ← Nat.pow_add]
            congr 2
            omega
          have := rne_scale (m * 2 ^ (e - L).toNat) (L - (e - D)).toNat 0
          rw [Nat.zero_add, rne_zero] at this
          rw [e1, this]
      · rw [if_neg h1, show (e - D - L).toNat = 0 by omega, Nat.pow_zero, Nat.mul_one]
        by_cases h2 : L - e > 62
        · rw [if_pos h2, rne_small]
          have h3 : N < 2 ^ (62 + D) := by
            rw [Nat.pow_add]
            have : N < (m + 1) * 2 ^ D := by
              rw [← hmm, Nat.mul_comm]
              exact Nat.lt_mul_div_succ N hD
            exact Nat.lt_of_lt_of_le this (Nat.mul_le_mul_right _ hm)
          have h4 : (2 : Nat) ^ (62 + D + 1) ≤ 2 ^ (L - (e - D)).toNat := Nat.pow_le_pow_right (by decide) (by omega)
          rw [Nat.pow_succ] at h4
          omega
        · rw [if_neg h2]
          by_cases h3 : (L - e).toNat = 0
          · rw [h3]
            have hr : N % 2 ^ D = 0 := by
              by_cases hr : N % 2 ^ D = 0
              · exact hr
              · have := hbl hr
                omega
            rw [hr, Nat.add_zero, Nat.mul_comm] at hdm
            rw [← hdm, show (L - (e - D)).toNat = 0 + D by omega, rne_scale, rne_zero]
            rfl
          · have := hs_rne N D _ h3
            rw [hmm] at this
            rw [this]
            congr 1
            omega
    rw [hkept]
    have hge : L = -149 ∨ 8388608 ≤ rne (N * 2 ^ (e - D - L).toNat) (L - (e - D)).toNat := by
      rcases hL with h1 | ⟨h1, h2⟩
      · exact .inl h1
      · right
        apply rne_ge (j := 23)
        have h3 : (2 : Nat) ^ (23 + (L - (e - D)).toNat) = 2 ^ N.log2 * 2 ^ (e - D - L).toNat ∨ 23 + (L - (e - D)).toNat ≤ N.log2 + (e - D - L).toNat := by
          right
          omega
        rcases h3 with h3 | h3
        · rw [h3]
          exact Nat.mul_le_mul_right _ hlo
        · exact Nat.le_trans (Nat.pow_le_pow_right (by decide) h3) (by rw [Nat.pow_add]; exact Nat.mul_le_mul_right _ hlo)
    generalize rne (N * 2 ^ (e - D - L).toNat) (L - (e - D)).toNat = K at *
    congr 1
    by_cases h1 : K = 16777216
    · rw [if_pos h1]
      omega
    · rw [if_neg h1]
      by_cases h2 : 8388608 ≤ K
      · rw [if_pos h2]
        omega
      · rw [if_neg h2]
        omega
theorem close_exact (m : Nat) (e : Int) (hm : m < 2 ^ 62) : closeV m e false = mag m e := by
  have := close_mag m 0 e (by simpa using hm) (by simp [Nat.mod_one])
  rw [Nat.pow_zero, Nat.mod_one, Nat.div_one] at this
  simpa using this
/-! ### the reference's floats: what its functions come to -/
theorem bl_half {x : Nat} (h : 0 < x) : bl x = bl (x / 2) + 1 := by
  unfold bl
  rw [if_neg (by omega)]
  by_cases h1 : x = 1
  · subst h1
    rfl
  · rw [if_neg (by omega), Nat.log2_def, if_pos (by omega)]
theorem hs_succ (x j : Nat) (more : Bool) : hs x (j + 1) more = if x / 2 ^ j % 2 = 1 ∧ ((more || decide (x % 2 ^ j ≠ 0)) = true ∨ x / 2 ^ j / 2 % 2 = 1) then x / 2 ^ j / 2 + 1 else x / 2 ^ j / 2 := by
  unfold hs
  rw [if_neg (by omega)]
  rfl
theorem hs_step (x j : Nat) (more : Bool) : hs x (j + 2) more = hs (x / 2) (j + 1) (more || decide (x % 2 = 1)) := by
  have e1 : x / 2 ^ (j + 1) = x / 2 / 2 ^ j := by rw [Nat.pow_succ, Nat.mul_comm, Nat.div_div_eq_div_mul]
  have e2 : x % 2 ^ (j + 1) = x % 2 + 2 * (x / 2 % 2 ^ j) := by rw [Nat.pow_succ, Nat.mul_comm, Nat.mod_mul]
  have e3 : (more || decide (x % 2 ^ (j + 1) ≠ 0)) = (more || decide (x % 2 = 1) || decide (x / 2 % 2 ^ j ≠ 0)) := by
    rw [e2, Bool.or_assoc]
    congr 1
    rw [Bool.eq_iff_iff]
    simp only [Bool.or_eq_true, decide_eq_true_eq]
    omega
  rw [hs_succ, hs_succ, e1, e3]
theorem hs_one (x : Nat) (more : Bool) : hs x 1 more = if x % 2 = 1 ∧ (more = true ∨ x / 2 % 2 = 1) then x / 2 + 1 else x / 2 := by
  unfold hs
  rw [if_neg (by omega)]
  simp [Nat.mod_one]
theorem half_nat (x : Nat) : ((x : Int) / 2) = ((x / 2 : Nat) : Int) := by omega
theorem half_loop (K : Int) (hK : K ≤ 62) (d : Nat) : ∀ (x : Nat) (more : Bool) (i : Nat), x < 4611686018427387904 → 1 ≤ i → ((i : Int) ≤ K ∨ i = 1) → (K - i).toNat = d → Ev (fun k => spec_l2Half.l0 k (x : Int) K more (i : Int)) ((hs x (K - i + 1).toNat more : Nat) : Int) := by
  induction d with
  | zero =>
    intro x more i hx hi hiK hd
    refine Ev.succ ?_
    simp only [spec_l2Half.l0]
    refine Ev.neg (by omega) ?_
    by_cases h0 : K ≤ 0
    · refine Ev.pos h0 (Ev.some ?_)
      rw [show (K - i + 1).toNat = 0 by omega]
      rfl
    · refine Ev.neg h0 ?_
      rw [show (K - i + 1).toNat = 1 by omega, hs_one]
      refine Ev.ite ?_ ?_
      · intro h1
        rw [and_1] at h1
        refine Ev.ite ?_ ?_
        · intro h2
          subst h2
          refine Ev.succ ?_
          simp only [spec_l2Half.j1]
          refine Ev.pos (by simp) (Ev.some ?_)
          rw [if_pos ⟨by omega, .inl (by simp)⟩, wrap_id (by omega) (by omega)]
          omega
        · intro h2
          refine Ev.succ ?_
          simp only [spec_l2Half.j1, and_1]
          refine Ev.ite ?_ ?_
          · intro h3
            rw [beq_iff_eq] at h3
            refine Ev.some ?_
            rw [if_pos ⟨by omega, .inr (by omega)⟩, wrap_id (by omega) (by omega)]
            omega
          · intro h3
            rw [beq_iff_eq] at h3
            refine Ev.some ?_
            rw [if_neg (by rintro ⟨_, h | h⟩; exact h2 h; omega)]
            omega
      · intro h1
        rw [and_1] at h1
        refine Ev.succ ?_
        simp only [spec_l2Half.j1]
        refine Ev.neg (by simp) (Ev.some ?_)
        rw [if_neg (by omega)]
        omega
  | succ d ih =>
    intro x more i hx hi hiK hd
    refine Ev.succ ?_
    simp only [spec_l2Half.l0]
    refine Ev.pos (by omega) ?_
    obtain ⟨j, hj⟩ : ∃ j : Nat, (K - i + 1).toNat = j + 2 := ⟨(K - i - 1).toNat, by omega⟩
    have e1 : (K - ((i + 1 : Nat) : Int) + 1).toNat = j + 1 := by omega
    rw [hj, hs_step]
    rw [half_nat, up i (n := 1000) (by omega) (by omega), and_1]
    have key := fun m => ih (x / 2) m (i + 1) (by omega) (by omega) (by omega) (by omega)
    rw [e1] at key
    have e2 : (((x : Int) % 2) == 1) = decide (x % 2 = 1) := by
      rw [Bool.eq_iff_iff, beq_iff_eq, decide_eq_true_eq]
      omega
    rw [e2]
    refine Ev.ite ?_ ?_
    · intro h
      subst h
      rw [Bool.true_or]
      exact key true
    · intro h
      have : more = false := by simpa using h
      subst this
      rw [Bool.false_or]
      exact key _
theorem half_ev (x : Nat) (hx : x < 4611686018427387904) (K : Int) (more : Bool) : Ev (fun k => spec_l2Half.f k (x : Int) K more) (if K > 62 then 0 else ((hs x K.toNat more : Nat) : Int)) := by
  unfold spec_l2Half.f
  by_cases h : K > 62
  · rw [if_pos h]
    exact Ev.pos h (Ev.some rfl)
  · rw [if_neg h]
    refine Ev.neg h ?_
    have := half_loop K (by omega) _ x more 1 hx (by omega) (.inr rfl) rfl
    by_cases h0 : K ≤ 0
    · have e : (K - ((1 : Nat) : Int) + 1).toNat = K.toNat := by omega
      rw [e] at this
      exact this
    · have e : (K - ((1 : Nat) : Int) + 1).toNat = K.toNat := by omega
      rw [e] at this
      exact this
theorem shl24 : shl .i64 1 (IntKind.u64.wrap (wrap64 (23 + 1))) = 16777216 := by
  rw [show wrap64 (23 + 1) = 24 by unfold wrap64; omega, IntKind.wrap_u64]
  rfl
theorem shl23 (x : Int) (h0 : 0 ≤ x) (h1 : x < 1000) : shl .i64 x (IntKind.u64.wrap 23) = x * 8388608 := by
  unfold shl
  have e : min (IntKind.u64.wrap 23).toNat IntKind.i64.bits = 23 := by
    rw [IntKind.wrap_u64]
    rfl
  rw [e, IntKind.wrap_i64]
  omega
theorem u64_23 : (0 : Int) ≤ IntKind.u64.wrap 23 := by
  rw [IntKind.wrap_u64]
  omega
theorem u64_24 : (0 : Int) ≤ IntKind.u64.wrap (wrap64 (23 + 1)) := by
  rw [IntKind.wrap_u64]
  omega
/-- The last part of the reference's close. -/
theorem close_end (kept : Nat) (hk : kept ≤ 4611686018427387904) (last : Int) (h0 : -149 ≤ last) (h1 : last < 300) :
    Ev (fun k => if 0 ≤ (IntKind.u64.wrap (wrap64 ((23 : Int) + 1))) then (if (kept : Int) = (shl .i64 1 (IntKind.u64.wrap (wrap64 (23 + 1)))) then (spec_l2Close.j3 k ((kept : Int) / 2) 23 255 (-149) (wrap64 (last + 1))) else (spec_l2Close.j3 k (kept : Int) 23 255 (-149) last)) else none)
      ((min (if kept = 16777216 then (last + 151).toNat * 8388608 else if 8388608 ≤ kept then kept - 8388608 + (last + 150).toNat * 8388608 else kept) 2139095040 : Nat) : Int) := by
  have fin : ∀ n : Int, Ev (fun k => spec_l2Close.j4 k 23 255 n) (if n > 2139095040 then 2139095040 else n) := by
    intro n
    refine Ev.succ ?_
    simp only [spec_l2Close.j4]
    refine Ev.pos u64_23 ?_
    rw [shl23 255 (by omega) (by omega)]
    by_cases h : n > 2139095040
    · rw [if_pos h]
      exact Ev.pos (by omega) (Ev.some (by omega))
    · rw [if_neg h]
      exact Ev.neg (by omega) (Ev.some rfl)
  have mid : ∀ (x : Nat) (l : Int), x ≤ 4611686018427387904 → -149 ≤ l → l < 301 → Ev (fun k => spec_l2Close.j3 k (x : Int) 23 255 (-149) l) (if (if 8388608 ≤ x then (x : Int) - 8388608 + (l + 150) * 8388608 else x) > 2139095040 then 2139095040 else (if 8388608 ≤ x then (x : Int) - 8388608 + (l + 150) * 8388608 else x)) := by
    intro x l hx hl0 hl1
    refine Ev.succ ?_
    simp only [spec_l2Close.j3]
    refine Ev.pos u64_23 ?_
    rw [shl23 1 (by omega) (by omega), wrap_id (n := l - -149) (by omega) (by omega), wrap_id (n := l - -149 + 1) (by omega) (by omega)]
    by_cases h : 8388608 ≤ x
    · refine Ev.pos (by omega) ?_
      by_cases hl : l - -149 + 1 < 1000
      · rw [shl23 _ (by omega) (by omega), wrap_id (n := (x : Int) - 1 * 8388608) (by omega) (by omega), wrap_id (by omega) (by omega), if_pos h]
        have e : (x : Int) - 1 * 8388608 + (l - -149 + 1) * 8388608 = (x : Int) - 8388608 + (l + 150) * 8388608 := by omega
        rw [e]
        exact fin _
      · omega
    · refine Ev.neg (by omega) ?_
      rw [if_neg h]
      exact fin _
  refine Ev.pos u64_24 ?_
  rw [shl24, wrap_id (n := last + 1) (by omega) (by omega)]
  by_cases h : kept = 16777216
  · refine Ev.pos (by omega) ?_
    subst h
    have := mid 8388608 (last + 1) (by omega) (by omega) (by omega)
    have h8 : (8388608 : Nat) ≤ 8388608 := by omega
    simp only [if_pos h8] at this
    rw [if_pos rfl]
    have e : (((16777216 : Nat) : Int) / 2) = ((8388608 : Nat) : Int) := by omega
    rw [e]
    have e2 : ((min ((last + 151).toNat * 8388608) 2139095040 : Nat) : Int) = (if ((8388608 : Nat) : Int) - 8388608 + (last + 1 + 150) * 8388608 > 2139095040 then 2139095040 else ((8388608 : Nat) : Int) - 8388608 + (last + 1 + 150) * 8388608) := by
      split <;> omega
    rw [e2]
    exact this
  · refine Ev.neg (by omega) ?_
    rw [if_neg h]
    have := mid kept last hk h0 (by omega)
    have e2 : ((min (if 8388608 ≤ kept then kept - 8388608 + (last + 150).toNat * 8388608 else kept) 2139095040 : Nat) : Int) = (if (if 8388608 ≤ kept then (kept : Int) - 8388608 + (last + 150) * 8388608 else kept) > 2139095040 then 2139095040 else (if 8388608 ≤ kept then (kept : Int) - 8388608 + (last + 150) * 8388608 else kept)) := by
      by_cases h3 : 8388608 ≤ kept
      · simp only [if_pos h3]
        split <;> omega
      · simp only [if_neg h3]
        split <;> omega
    rw [e2]
    exact this
theorem hs_le (x k : Nat) (more : Bool) (hx : x < 4611686018427387904) : hs x k more ≤ 4611686018427387904 := by
  unfold hs
  have : x / 2 ^ (k - 1) ≤ x := Nat.div_le_self _ _
  split
  · omega
  · split <;> omega
theorem close_loop1 (last : Int) (more : Bool) (h0 : -149 ≤ last) (h1 : last < 300) (d : Nat) : ∀ (x : Nat) (e : Int), x * 2 ^ d < 4611686018427387904 → (e - last).toNat = d → e < 1000 → -1000 < e →
    Ev (fun k => spec_l2Close.l1 k (x : Int) e more 23 255 (-149) last)
      ((min (if (if last < e then x * 2 ^ (e - last).toNat else if last - e > 62 then 0 else hs x (last - e).toNat more) = 16777216 then (last + 151).toNat * 8388608 else if 8388608 ≤ (if last < e then x * 2 ^ (e - last).toNat else if last - e > 62 then 0 else hs x (last - e).toNat more) then (if last < e then x * 2 ^ (e - last).toNat else if last - e > 62 then 0 else hs x (last - e).toNat more) - 8388608 + (last + 150).toNat * 8388608 else (if last < e then x * 2 ^ (e - last).toNat else if last - e > 62 then 0 else hs x (last - e).toNat more)) 2139095040 : Nat) : Int) := by
  induction d with
  | zero =>
    intro x e hx hd he he'
    rw [Nat.pow_zero, Nat.mul_one] at hx
    refine Ev.succ ?_
    simp only [spec_l2Close.l1]
    refine Ev.neg (by omega) ?_
    rw [wrap_id (n := last - e) (by omega) (by omega), if_neg (show ¬ last < e by omega)]
    refine Ev.bind (half_ev x hx (last - e) more) ?_
    by_cases h : last - e > 62
    · rw [if_pos h, if_pos h]
      exact close_end 0 (by omega) last h0 h1
    · rw [if_neg h, if_neg h]
      exact close_end _ (hs_le _ _ _ hx) last h0 h1
  | succ d ih =>
    intro x e hx hd he he'
    refine Ev.succ ?_
    simp only [spec_l2Close.l1]
    refine Ev.pos (by omega) ?_
    have hx2 : x * 2 * 2 ^ d < 4611686018427387904 := by
      rw [Nat.mul_assoc, Nat.mul_comm 2, ← Nat.pow_succ]
      exact hx
    have hx3 : x * 2 < 4611686018427387904 := Nat.lt_of_le_of_lt (Nat.le_mul_of_pos_right _ (Nat.pow_pos (by decide))) hx2
    rw [wrap_id (n := e - 1) (by omega) (by omega), wrap_id (n := (x : Int) * 2) (by omega) (by omega)]
    have := ih (x * 2) (e - 1) hx2 (by omega) (by omega) (by omega)
    have ek : (if last < e - 1 then x * 2 * 2 ^ (e - 1 - last).toNat else if last - (e - 1) > 62 then 0 else hs (x * 2) (last - (e - 1)).toNat more) = (if last < e then x * 2 ^ (e - last).toNat else if last - e > 62 then 0 else hs x (last - e).toNat more) := by
      rw [if_pos (show last < e by omega)]
      by_cases h : last < e - 1
      · rw [if_pos h, Nat.mul_assoc, Nat.mul_comm 2, ← Nat.pow_succ]
        congr 2
        omega
      · rw [if_neg h, if_neg (by omega), show (last - (e - 1)).toNat = 0 by omega, show (e - last).toNat = 1 by omega]
        rfl
    rw [ek] at this
    exact this
theorem close_bl (m : Nat) (e : Int) (more : Bool) (R : Int) (he : -1000 < e) (he' : e < 1000) (hbm : bl m ≤ 62) (hR : Ev (fun k => spec_l2Close.l1 k (m : Int) e more 23 255 (-149) (max (e + bl m - 24) (-149))) R) :
    ∀ (x n : Nat), x < 4611686018427387904 → n ≤ 100 → n + bl x = bl m → Ev (fun k => spec_l2Close.l0 k (m : Int) e more 23 255 (-149) (n : Int) (x : Int)) R := by
  have hb : ∀ y : Nat, y < 4611686018427387904 → bl y ≤ 62 := by
    intro y hy
    unfold bl
    split
    · omega
    · have := (Nat.log2_lt (n := y) (k := 62) (by omega)).2 (by simpa using hy)
      omega
  intro x
  induction x using Nat.strongRecOn with
  | _ x ih =>
    intro n hx hn hnb
    refine Ev.succ ?_
    simp only [spec_l2Close.l0]
    by_cases h0 : x = 0
    · subst h0
      have e0 : bl 0 = 0 := rfl
      have hm := hnb
      rw [e0, Nat.add_zero] at hm
      refine Ev.neg (by omega) ?_
      rw [wrap_id (n := e + n) (by omega) (by omega), wrap_id (n := e + n - 1) (by omega) (by omega), wrap_id (n := e + n - 1 - 23) (by omega) (by omega)]
      rw [← hm] at hR
      by_cases h : e + n - 1 - 23 < -149
      · refine Ev.pos h ?_
        refine Ev.succ ?_
        simp only [spec_l2Close.j1]
        rw [show max (e + (n : Int) - 24) (-149) = -149 by omega] at hR
        exact hR
      · refine Ev.neg h ?_
        refine Ev.succ ?_
        simp only [spec_l2Close.j1]
        rw [show max (e + (n : Int) - 24) (-149) = e + n - 1 - 23 by omega] at hR
        exact hR
    · have h1 := bl_half (x := x) (by omega)
      have h2 := hb x hx
      refine Ev.pos (by omega) ?_
      rw [half_nat, up n (n := 101) (by omega) (by omega)]
      exact ih (x / 2) (by omega) (n + 1) (by omega) (by omega) (by omega)
theorem close_ev (neg : Bool) (m : Nat) (hm : m < 4611686018427387904) (e : Int) (he : -500 < e) (he' : e < 200) (more : Bool) :
    Ev (fun k => spec_l2Close.f k neg (m : Int) e more 23 127 255) ((closeV m e more : Nat) : Int) := by
  unfold spec_l2Close.f
  rw [show wrap64 (wrap64 (1 - 127) - 23) = -149 by unfold wrap64; omega]
  have hb : bl m ≤ 62 := by
    unfold bl
    split
    · omega
    · have := (Nat.log2_lt (n := m) (k := 62) (by omega)).2 (by simpa using hm)
      omega
  have key := close_bl m e more ((closeV m e more : Nat) : Int) (by omega) (by omega) hb ?_ m 0 hm (by omega) (by omega)
  · exact key
  · refine close_loop1 (max (e + bl m - 24) (-149)) more (by omega) (by omega) _ m e ?_ rfl (by omega) (by omega)
    by_cases h0 : m = 0
    · subst h0
      rw [Nat.zero_mul]
      omega
    · have e1 : bl m = m.log2 + 1 := by
        unfold bl
        rw [if_neg h0]
      by_cases h1 : max (e + bl m - 24) (-149) < e
      · have h2 : (e - max (e + bl m - 24) (-149)).toNat ≤ 24 - bl m := by omega
        have h3 := log2_hi m
        rw [← e1] at h3
        have h4 : m * 2 ^ (e - max (e + bl m - 24) (-149)).toNat < 2 ^ bl m * 2 ^ (24 - bl m) := Nat.lt_of_lt_of_le (Nat.mul_lt_mul_of_pos_right h3 (Nat.pow_pos (by decide))) (Nat.mul_le_mul_left _ (Nat.pow_le_pow_right (by decide) h2))
        rw [← Nat.pow_add, show bl m + (24 - bl m) = 24 by omega] at h4
        omega
      · rw [show (e - max (e + bl m - 24) (-149)).toNat = 0 by omega, Nat.pow_zero, Nat.mul_one]
        exact hm
/-! ### opening a float; its sum -/
/-- The bits of what a number is as a float. -/
def sbits (a : Int) : Nat := if a < 0 then 2143289344 else if a > 4294967295 then 2143289344 else a.toNat
theorem sw32 : Ieee.single.signWeight = 2147483648 := by simp [Ieee.Format.signWeight, Ieee.single]
theorem bin32 : Ieee.single.binade = 8388608 := by simp [Ieee.Format.binade, Ieee.single]
theorem inf32 : Ieee.single.infRung = 2139095040 := by simp [Ieee.Format.infRung, Ieee.Format.binade, Ieee.single]
theorem least32 : Ieee.single.leastPlace = -149 := by simp [Ieee.Format.leastPlace, Ieee.single]
theorem read32 (n : Nat) (hn : n < 4294967296) : Ieee.single.read n =
    if n % 2147483648 < 8388608 then .number (decide (2147483648 ≤ n)) (n % 8388608) (-149)
    else if n % 2147483648 < 2139095040 then .number (decide (2147483648 ≤ n)) (8388608 + n % 8388608) (((n / 8388608 % 256 : Nat) : Int) - 150)
    else if n % 2147483648 = 2139095040 then .infinity (decide (2147483648 ≤ n)) else .nan (decide (2147483648 ≤ n)) (n % 2147483648 - 2139095040) := by
  unfold Ieee.Format.read
  simp only [sw32, bin32, inf32, least32]
  have e1 : (n / 2147483648 % 2 == 1) = decide (2147483648 ≤ n) := by
    rw [Bool.eq_iff_iff, beq_iff_eq, decide_eq_true_eq]
    omega
  rw [e1]
  by_cases h1 : n % 2147483648 < 8388608
  · rw [if_pos h1, if_pos h1]
    congr 1
    omega
  · rw [if_neg h1, if_neg h1]
    by_cases h2 : n % 2147483648 < 2139095040
    · rw [if_pos h2, if_pos h2]
      congr 1
      · omega
      · omega
    · rw [if_neg h2, if_neg h2]
/-- What a float is, opened: the model's datum beside the reference's four numbers. -/
inductive Opens : Ieee.Datum → Int × Bool × Int × Int → Prop
  | nan (s : Bool) (f : Nat) (n : Bool) : Opens (.nan s f) (2, n, 0, 0)
  | inf (s : Bool) : Opens (.infinity s) (1, s, 0, 0)
  | num (s : Bool) (m : Nat) (p : Int) (hm : m < 16777216) (h0 : -149 ≤ p) (h1 : p ≤ 104) (h2 : p = -149 ∨ 8388608 ≤ m) : Opens (.number s m p) (0, s, (m : Int), p)
theorem and_255' (n : Int) : Go.bits .and .i64 n 255 = n % 256 := and_mask n 8 (by decide)
theorem and_frac (n : Int) : Go.bits .and .i64 n 8388607 = n % 8388608 := and_mask n 23 (by decide)
theorem open_ev (a : Int) : ∃ q, Ev (fun k => spec_l2Open.f k a) q ∧ Opens (Ieee.single.read (sbits a)) q := by
  have hnan : ∀ n : Bool, Opens (Ieee.single.read 2143289344) (2, n, 0, 0) := by
    intro n
    rw [read32 _ (by omega), if_neg (by omega), if_neg (by omega), if_neg (by omega)]
    exact .nan _ _ _
  unfold spec_l2Open.f sbits
  by_cases h0 : a < 0
  · rw [if_pos h0]
    refine ⟨(2, false, 0, 0), Ev.pos h0 (Ev.succ ?_), hnan _⟩
    simp only [spec_l2Open.j0]
    exact Ev.pos (by simp) (Ev.some rfl)
  · rw [if_neg h0]
    by_cases h1 : a > 4294967295
    · rw [if_pos h1]
      refine ⟨(2, false, 0, 0), Ev.neg h0 (Ev.succ ?_), hnan _⟩
      simp only [spec_l2Open.j0]
      exact Ev.pos (by simpa using h1) (Ev.some rfl)
    · rw [if_neg h1]
      obtain ⟨n, rfl⟩ := Int.eq_ofNat_of_zero_le (show 0 ≤ a by omega)
      rw [Int.toNat_natCast, read32 n (by omega)]
      have es : (((n : Int) / 2147483648) == 1) = decide (2147483648 ≤ n) := by
        rw [Bool.eq_iff_iff, beq_iff_eq, decide_eq_true_eq]
        omega
      have start : ∀ r, Ev (fun k => if Go.bits .and .i64 ((n : Int) / 8388608) 255 = 255 then (spec_l2Open.j1 k (Go.bits .and .i64 ((n : Int) / 8388608) 255) (Go.bits .and .i64 (n : Int) 8388607) ((Go.bits .and .i64 (n : Int) 8388607) != 0) 0 (((n : Int) / 2147483648) == 1) 0 0) else (spec_l2Open.j1 k (Go.bits .and .i64 ((n : Int) / 8388608) 255) (Go.bits .and .i64 (n : Int) 8388607) false 0 (((n : Int) / 2147483648) == 1) 0 0)) r →
          Ev (fun k => if (n : Int) < 0 then spec_l2Open.j0 k (n : Int) true else spec_l2Open.j0 k (n : Int) (decide ((n : Int) > 4294967295))) r := by
        intro r hr
        refine Ev.neg h0 (Ev.succ ?_)
        simp only [spec_l2Open.j0]
        exact Ev.neg (by simpa using h1) hr
      rw [es, and_255', and_frac] at start
      by_cases c1 : n % 2147483648 < 8388608
      · rw [if_pos c1]
        refine ⟨(0, decide (2147483648 ≤ n), ((n % 8388608 : Nat) : Int), -149), start _ (Ev.neg (by omega) (Ev.succ ?_)), .num _ _ _ (by omega) (by omega) (by omega) (.inl rfl)⟩
        simp only [spec_l2Open.j1]
        refine Ev.neg (by simp) (Ev.neg (by omega) (Ev.pos (by omega) (Ev.some ?_)))
        rw [show ((n % 8388608 : Nat) : Int) = (n : Int) % 8388608 by omega]
      · rw [if_neg c1]
        by_cases c2 : n % 2147483648 < 2139095040
        · rw [if_pos c2]
          refine ⟨(0, decide (2147483648 ≤ n), ((8388608 + n % 8388608 : Nat) : Int), ((n / 8388608 % 256 : Nat) : Int) - 150), start _ (Ev.neg (by omega) (Ev.succ ?_)), .num _ _ _ (by omega) (by omega) (by omega) (.inr (by omega))⟩
          simp only [spec_l2Open.j1]
          refine Ev.neg (by simp) (Ev.neg (by omega) (Ev.neg (by omega) (Ev.some ?_)))
          rw [wrap_id (by omega) (by omega), wrap_id (by omega) (by omega)]
          congr 3
          omega
        · rw [if_neg c2]
          by_cases c3 : n % 2147483648 = 2139095040
          · rw [if_pos c3]
            refine ⟨(1, decide (2147483648 ≤ n), 0, 0), start _ (Ev.pos (by omega) (Ev.succ ?_)), .inf _⟩
            simp only [spec_l2Open.j1]
            refine Ev.neg ?_ (Ev.pos (by omega) (Ev.some rfl))
            have : (n : Int) % 8388608 = 0 := by omega
            rw [this]
            simp
          · rw [if_neg c3]
            refine ⟨(2, decide (2147483648 ≤ n), 0, 0), start _ (Ev.pos (by omega) (Ev.succ ?_)), .nan _ _ _⟩
            simp only [spec_l2Open.j1]
            refine Ev.pos ?_ (Ev.some rfl)
            have : (n : Int) % 8388608 ≠ 0 := by omega
            simpa using this
def sgn (s : Bool) : Nat := if s = true then 2147483648 else 0
theorem sign_ev (s : Bool) : spec_l2Sign.f s = some (if s = true then 1 else 0) := by
  unfold spec_l2Sign.f
  cases s <;> simp
theorem word32 (s : Bool) (g : Nat) : Ieee.single.word s g = g + sgn s := by
  unfold Ieee.Format.word sgn
  rw [sw32]
  cases s <;> simp <;> omega
theorem put_ev (s : Bool) (m : Nat) (hm : m < 4611686018427387904) (e : Int) (he : -500 < e) (he' : e < 200) (more : Bool) :
    Ev (fun k => spec_l2Put.f k s (m : Int) e more) ((closeV m e more + sgn s : Nat) : Int) := by
  unfold spec_l2Put.f
  refine Ev.bind (close_ev s m hm e he he' more) (Ev.b (sign_ev s) (Ev.some ?_))
  have h1 : closeV m e more ≤ 2139095040 := by
    unfold closeV
    exact Nat.min_le_right _ _
  cases s
  · simp only [sgn, Bool.false_eq_true, if_false]
    rw [wrap_id (n := 0 * 2147483648) (by omega) (by omega), wrap_id (by omega) (by omega)]
    omega
  · simp only [sgn, if_true]
    rw [wrap_id (n := 1 * 2147483648) (by omega) (by omega), wrap_id (by omega) (by omega)]
    omega
/-- The sum as a number of the program's. -/
def fadd (a b : Int) : Int := match Ieee.single.add (sbits a) (sbits b) with
  | some r => (r : Int)
  | none => 2143289344
/-- The sum of two data, written. -/
def dsum (x y : Ieee.Datum) : Int := match (x.sum y).map Ieee.single.write with
  | some r => (r : Int)
  | none => 2143289344
theorem fadd_dsum (a b : Int) : fadd a b = dsum (Ieee.single.read (sbits a)) (Ieee.single.read (sbits b)) := rfl
theorem sum_comm (x y : Ieee.Datum) : x.sum y = y.sum x := by
  cases x <;> cases y <;> simp only [Ieee.Datum.sum]
  · rename_i s m i t n j
    rw [Int.min_comm i j, Int.add_comm, Bool.and_comm]
  · rename_i s t
    by_cases h : s = t
    · subst h
      rfl
    · rw [if_neg h, if_neg (fun e => h e.symm)]
theorem dsum_comm (x y : Ieee.Datum) : dsum x y = dsum y x := by
  unfold dsum
  rw [sum_comm]
theorem signed_val (s : Bool) (m d : Nat) : Ieee.signed s m d = if s = true then -((m * 2 ^ d : Nat) : Int) else ((m * 2 ^ d : Nat) : Int) := by
  unfold Ieee.signed
  rw [Nat.shiftLeft_eq]
theorem dsum_same (s : Bool) (m n : Nat) (i j : Int) (h : j ≤ i) : dsum (.number s m i) (.number s n j) = ((mag (m * 2 ^ (i - j).toNat + n) j + sgn s : Nat) : Int) := by
  unfold dsum
  simp only [Ieee.Datum.sum, Option.map_some, Ieee.Format.write]
  rw [Int.min_eq_right h, signed_val, signed_val, show (j - j).toNat = 0 by omega, Nat.pow_zero, Nat.mul_one, nearest_mag, word32]
  generalize m * 2 ^ (i - j).toNat = M
  cases s
  · simp only [Bool.false_eq_true, if_false]
    rw [show ((M : Int) + (n : Int)).natAbs = M + n by omega]
    by_cases h0 : (M : Int) + n = 0
    · rw [if_pos h0]
      rfl
    · rw [if_neg h0]
      have : decide ((M : Int) + n < 0) = false := decide_eq_false (by omega)
      rw [this]
  · simp only [if_true]
    rw [show (-(M : Int) + -(n : Int)).natAbs = M + n by omega]
    by_cases h0 : -(M : Int) + -(n : Int) = 0
    · rw [if_pos h0]
      rfl
    · rw [if_neg h0]
      have : decide (-(M : Int) + -(n : Int) < 0) = true := decide_eq_true (by omega)
      rw [this]
theorem dsum_diff (s : Bool) (m n : Nat) (i j : Int) (h : j ≤ i) (hmn : n ≤ m * 2 ^ (i - j).toNat) : dsum (.number s m i) (.number (!s) n j) = ((mag (m * 2 ^ (i - j).toNat - n) j + sgn (if m * 2 ^ (i - j).toNat = n then false else s) : Nat) : Int) := by
  unfold dsum
  simp only [Ieee.Datum.sum, Option.map_some, Ieee.Format.write]
  rw [Int.min_eq_right h, signed_val, signed_val, show (j - j).toNat = 0 by omega, Nat.pow_zero, Nat.mul_one, nearest_mag, word32]
  generalize m * 2 ^ (i - j).toNat = M at *
  cases s
  · simp only [Bool.false_eq_true, if_false, Bool.not_false, if_true]
    rw [show ((M : Int) + -(n : Int)).natAbs = M - n by omega]
    by_cases h0 : M = n
    · subst h0
      rw [if_pos rfl, if_pos (by omega)]
      rfl
    · rw [if_neg h0, if_neg (by omega)]
      have : decide ((M : Int) + -(n : Int) < 0) = false := decide_eq_false (by omega)
      rw [this]
  · simp only [if_true, Bool.not_true, Bool.false_eq_true, if_false]
    rw [show (-(M : Int) + (n : Int)).natAbs = M - n by omega]
    by_cases h0 : M = n
    · subst h0
      rw [if_pos rfl, if_pos (by omega)]
      rfl
    · rw [if_neg h0, if_neg (by omega)]
      have : decide (-(M : Int) + (n : Int) < 0) = true := decide_eq_true (by omega)
      rw [this]
/-! ### the program's sum -/
theorem cmp_self (x : Int) : compare x x = .eq := by
  rw [show compare x x = compareOfLessAndEq x x from rfl, compareOfLessAndEq, if_neg (Int.lt_irrefl x), if_pos rfl]
theorem cmp_self_nat (x : Nat) : compare x x = .eq := by
  rw [show compare x x = compareOfLessAndEq x x from rfl, compareOfLessAndEq, if_neg (Nat.lt_irrefl x), if_pos rfl]
theorem bits_num (n : Nat) (hn : n < 4294967296) (h : n % 2147483648 ≤ 2139095040) : impl_bitsOf.v n = n := by
  have e : Ieee.single.order n n = some .eq := by
    unfold Ieee.Format.order
    rw [read32 n hn]
    by_cases h1 : n % 2147483648 < 8388608
    · rw [if_pos h1]
      simp only [Ieee.Datum.order, cmp_self]
    · rw [if_neg h1]
      by_cases h2 : n % 2147483648 < 2139095040
      · rw [if_pos h2]
        simp only [Ieee.Datum.order, cmp_self]
      · rw [if_neg h2, if_pos (by omega)]
        simp only [Ieee.Datum.order, cmp_self_nat]
  unfold impl_bitsOf.v
  rw [e]
  rfl
theorem write_num (d : Ieee.Datum) (h : ∀ s f, d ≠ .nan s f) : Ieee.single.write d < 4294967296 ∧ Ieee.single.write d % 2147483648 ≤ 2139095040 := by
  have key : ∀ (s : Bool) (g : Nat), g ≤ 2139095040 → Ieee.single.word s g < 4294967296 ∧ Ieee.single.word s g % 2147483648 ≤ 2139095040 := by
    intro s g hg
    rw [word32]
    cases s
    · simp only [sgn, Bool.false_eq_true, if_false]
      omega
    · simp only [sgn, if_true]
      omega
  cases d with
  | number s m p =>
    simp only [Ieee.Format.write]
    rw [nearest_mag]
    exact key s _ (mag_le m p)
  | infinity s =>
    simp only [Ieee.Format.write]
    rw [inf32]
    exact key s _ (by omega)
  | nan s f => exact absurd rfl (h s f)
theorem sum_no_nan (x y d : Ieee.Datum) (h : x.sum y = some d) : ∀ s f, d ≠ .nan s f := by
  intro s f e
  subst e
  cases x <;> cases y <;> simp [Ieee.Datum.sum] at h
theorem impl_fadd (a b : Int) : impl_FAdd.f a b = some (fadd a b) := by
  unfold impl_FAdd.f impl_FAdd.v fadd
  rw [show impl_single.v a = sbits a from rfl, show impl_single.v b = sbits b from rfl]
  cases h : Ieee.single.add (sbits a) (sbits b) with
  | none => rfl
  | some r =>
    simp only [Option.some.injEq]
    unfold Ieee.Format.add at h
    obtain ⟨d, h1, h2⟩ := Option.map_eq_some_iff.1 h
    have := write_num d (sum_no_nan _ _ _ h1)
    rw [h2] at this
    exact bits_num r this.1 this.2
theorem fofint_nat (n : Nat) (h : n < 1000) : Ev (fun k => spec_FOfInt.f k (n : Int)) ((closeV n 0 false + sgn false : Nat) : Int) := by
  refine Ev.succ ?_
  simp only [spec_FOfInt.f]
  refine Ev.neg (by omega) (Ev.neg (by omega) (Ev.succ ?_))
  simp only [spec_FOfInt.l0]
  refine Ev.neg (by omega) (Ev.bind (put_ev false n (by omega) 0 (by omega) (by omega) false) (Ev.some rfl))
theorem fofint_tot (x : Int) (h0 : -1000 < x) (h1 : x < 1000) : Tot (fun k => spec_FOfInt.f k x) := by
  by_cases h : x < 0
  · obtain ⟨n, hn⟩ : ∃ n : Nat, -x = n := ⟨(-x).toNat, by omega⟩
    obtain ⟨v, hv⟩ : ∃ v, Ev (fun k => (spec_FOfInt.f k (n : Int)).bind fun t => some (wrap64 (t + 2147483648))) v := ⟨_, Ev.bind (fofint_nat n (by omega)) (Ev.some rfl)⟩
    refine ⟨v, Ev.succ ?_⟩
    simp only [spec_FOfInt.f]
    refine Ev.neg (by omega) (Ev.pos h ?_)
    rw [wrap_id (n := -x) (by omega) (by omega), hn]
    exact hv
  · obtain ⟨n, rfl⟩ := Int.eq_ofNat_of_zero_le (show 0 ≤ x by omega)
    exact ⟨_, fofint_nat n (by omega)⟩
theorem float_some (l : List Int) (hl : l.length ≤ 9223372036854775807) (i h : Int) (hi : 0 ≤ i) : ∃ x i' h', Ev (fun k => spec_l2Float.f k l i h) (x, i', h') ∧ 0 ≤ i' := by
  unfold spec_l2Float.f
  obtain ⟨s, i1, k1, e1, _, _, hi1⟩ := below_some l hl i h 2 hi
  obtain ⟨c, i2, k2, e2, _, _, hi2⟩ := below_some l hl i1 k1 10 hi1
  by_cases c0 : c = 0
  · obtain ⟨x, i3, k3, e3, hi3⟩ := pick_some l hl i2 k2 [0, 2147483648, 1, 8388607, 8388608, 2139095039, 2139095040, 4286578688, 2143289344, 2143289345, 2139095041, 4294967295, (-1), 4294967296] hi2 (by simp)
    exact ⟨_, _, _, Ev.b e1 (Ev.b e2 (Ev.pos c0 (Ev.b e3 (Ev.some rfl)))), hi3⟩
  · by_cases c1 : c = 1
    · obtain ⟨x, i3, k3, e3, _, _, hi3⟩ := below_some l hl i2 k2 4294967296 hi2
      exact ⟨_, _, _, Ev.b e1 (Ev.b e2 (Ev.neg c0 (Ev.pos c1 (Ev.b e3 (Ev.some rfl))))), hi3⟩
    · by_cases c2 : c = 2
      · obtain ⟨x, i3, k3, e3, _, _, hi3⟩ := below_some l hl i2 k2 3 hi2
        obtain ⟨y, i4, k4, e4, _, _, hi4⟩ := below_some l hl i3 k3 8388608 hi3
        exact ⟨_, _, _, Ev.b e1 (Ev.b e2 (Ev.neg c0 (Ev.neg c1 (Ev.pos c2 (Ev.b e3 (Ev.b e4 (Ev.some rfl))))))), hi4⟩
      · by_cases c3 : c = 3
        · obtain ⟨x, i3, k3, e3, x0, x1, hi3⟩ := below_some l hl i2 k2 1000 hi2
          have x2 := x1 (by omega)
          obtain ⟨v, hv⟩ := fofint_tot (wrap64 (x - 500)) (by rw [wrap_id] <;> omega) (by rw [wrap_id] <;> omega)
          exact ⟨_, _, _, Ev.b e1 (Ev.b e2 (Ev.neg c0 (Ev.neg c1 (Ev.neg c2 (Ev.pos c3 (Ev.b e3 (Ev.bind hv (Ev.some rfl)))))))), hi3⟩
        · by_cases c4 : c = 4
          · obtain ⟨x, i3, k3, e3, _, _, hi3⟩ := below_some l hl i2 k2 56 hi2
            obtain ⟨y, i4, k4, e4, hi4⟩ := pick_some l hl i3 k3 [0, 1, 8388607, 4194304, 4194303] hi3 (by simp)
            exact ⟨_, _, _, Ev.b e1 (Ev.b e2 (Ev.neg c0 (Ev.neg c1 (Ev.neg c2 (Ev.neg c3 (Ev.pos c4 (Ev.b e3 (Ev.b e4 (Ev.some rfl))))))))), hi4⟩
          · obtain ⟨x, i3, k3, e3, _, _, hi3⟩ := below_some l hl i2 k2 12 hi2
            obtain ⟨y, i4, k4, e4, _, _, hi4⟩ := below_some l hl i3 k3 8388608 hi3
            exact ⟨_, _, _, Ev.b e1 (Ev.b e2 (Ev.neg c0 (Ev.neg c1 (Ev.neg c2 (Ev.neg c3 (Ev.neg c4 (Ev.b e3 (Ev.b e4 (Ev.some rfl))))))))), hi4⟩
theorem fneg_tot (a : Int) : Tot (fun k => spec_FNeg.f k a) := by
  obtain ⟨q, hq, _⟩ := open_ev a
  by_cases h : q.1 = 2
  · exact ⟨_, Ev.bind hq (Ev.pos h (Ev.some rfl))⟩
  · exact ⟨_, Ev.bind hq (Ev.neg h (Ev.some rfl))⟩
theorem draw_some (l : List Int) (hl : l.length ≤ 9223372036854775807) : ∃ a b, Ev (fun k => spec_DrawFAdd.f k l) (a, b) := by
  have : ∃ q : Int × Int, Ev (fun k => spec_l2TwoFloats.f k l) q := by
    unfold spec_l2TwoFloats.f
    obtain ⟨h, hn⟩ := new_ev l hl
    obtain ⟨a, i1, k1, e1, hi1⟩ := float_some l hl 0 h (by omega)
    obtain ⟨b, i2, k2, e2, hi2⟩ := float_some l hl i1 k1 hi1
    obtain ⟨c, i3, k3, e3, _, _, hi3⟩ := below_some l hl i2 k2 8 hi2
    obtain ⟨na, hna⟩ := fneg_tot a
    by_cases c0 : c = 0
    · exact ⟨_, Ev.bind hn (Ev.bind e1 (Ev.bind e2 (Ev.b e3 (Ev.pos c0 (Ev.bind hna (Ev.some rfl))))))⟩
    · by_cases c1 : c = 1
      · exact ⟨_, Ev.bind hn (Ev.bind e1 (Ev.bind e2 (Ev.b e3 (Ev.neg c0 (Ev.pos c1 (Ev.bind hna (Ev.some rfl)))))))⟩
      · by_cases c2 : c = 2
        · exact ⟨_, Ev.bind hn (Ev.bind e1 (Ev.bind e2 (Ev.b e3 (Ev.neg c0 (Ev.neg c1 (Ev.pos c2 (Ev.some rfl)))))))⟩
        · exact ⟨_, Ev.bind hn (Ev.bind e1 (Ev.bind e2 (Ev.b e3 (Ev.neg c0 (Ev.neg c1 (Ev.neg c2 (Ev.some rfl)))))))⟩
  obtain ⟨⟨a, b⟩, hq⟩ := this
  exact ⟨a, b, Ev.bind hq (Ev.some rfl)⟩
theorem product_comm (x y : Ieee.Datum) : x.product y = y.product x := by
  cases x with
  | number s m i =>
    cases y with
    | number t n j =>
      simp only [Ieee.Datum.product]
      rw [Bool.xor_comm, Nat.mul_comm, Int.add_comm]
    | infinity t =>
      simp only [Ieee.Datum.product]
    | nan t g => simp only [Ieee.Datum.product]
  | infinity s =>
    cases y with
    | number t n j =>
      simp only [Ieee.Datum.product]
    | infinity t =>
      simp only [Ieee.Datum.product]
      rw [Bool.xor_comm]
    | nan t g => simp only [Ieee.Datum.product]
  | nan s f =>
    cases y <;> simp only [Ieee.Datum.product]
theorem cmp_lt_int {x y : Int} (h : compare x y = .lt) : compare y x ≠ .lt := by
  rw [show compare x y = compareOfLessAndEq x y from rfl, compareOfLessAndEq] at h
  rw [show compare y x = compareOfLessAndEq y x from rfl, compareOfLessAndEq]
  by_cases h1 : x < y
  · rw [if_neg (by omega), if_neg (by omega)]
    simp
  · rw [if_neg h1] at h
    split at h <;> cases h
theorem cmp_lt_nat {x y : Nat} (h : compare x y = .lt) : compare y x ≠ .lt := by
  rw [show compare x y = compareOfLessAndEq x y from rfl, compareOfLessAndEq] at h
  rw [show compare y x = compareOfLessAndEq y x from rfl, compareOfLessAndEq]
  by_cases h1 : x < y
  · rw [if_neg (by omega), if_neg (by omega)]
    simp
  · rw [if_neg h1] at h
    split at h <;> cases h
theorem order_lt (x y : Ieee.Datum) (h : x.order y = some .lt) : y.order x ≠ some .lt := by
  cases x with
  | number s m i =>
    cases y with
    | number t n j =>
      simp only [Ieee.Datum.order] at h ⊢
      rw [Int.min_comm j i]
      intro e
      exact cmp_lt_int (Option.some.inj h) (Option.some.inj e)
    | infinity t =>
      simp only [Ieee.Datum.order] at h ⊢
      cases t <;> simp at h ⊢
    | nan t g =>
      simp only [Ieee.Datum.order] at h
      cases h
  | infinity s =>
    cases y with
    | number t n j =>
      simp only [Ieee.Datum.order] at h ⊢
      cases s <;> simp at h ⊢
    | infinity t =>
      simp only [Ieee.Datum.order] at h ⊢
      intro e
      exact cmp_lt_nat (Option.some.inj h) (Option.some.inj e)
    | nan t g =>
      simp only [Ieee.Datum.order] at h
      cases h
  | nan s f =>
    cases y <;> (simp only [Ieee.Datum.order] at h; cases h)
theorem xor31 (n : Nat) (h : n < 2147483648) : n ^^^ 2147483648 = 2147483648 + n := by
  apply Nat.eq_of_testBit_eq
  intro i
  rw [Nat.testBit_xor, show (2147483648 : Nat) = 2 ^ 31 by decide, Nat.testBit_two_pow]
  by_cases h1 : i < 31
  · rw [Nat.testBit_two_pow_add_gt h1, decide_eq_false (by omega), Bool.xor_false]
  · by_cases h2 : i = 31
    · subst h2
      rw [Nat.testBit_two_pow_add_eq, decide_eq_true rfl, Bool.xor_true]
    · have h3 : (2 : Nat) ^ 32 ≤ 2 ^ i := Nat.pow_le_pow_right (by decide) (by omega)
      rw [Nat.testBit_lt_two_pow (x := 2 ^ 31 + n) (by omega), Nat.testBit_lt_two_pow (x := n) (by omega), decide_eq_false (by omega)]
      rfl
theorem xor_bits (a b : Nat) (ha : a < 4611686018427387904) (hb : b < 4611686018427387904) : Go.bits .xor .i64 (a : Int) (b : Int) = ((a ^^^ b : Nat) : Int) := by
  show IntKind.i64.wrap ((BitVec.ofInt 64 (a : Int) ^^^ BitVec.ofInt 64 (b : Int)).toNat : Nat) = _
  rw [BitVec.toNat_xor, BitVec.toNat_ofInt, BitVec.toNat_ofInt, IntKind.wrap_i64]
  have h1 : ((a : Int) % ((2 ^ 64 : Nat) : Int)).toNat = a := by omega
  have h2 : ((b : Int) % ((2 ^ 64 : Nat) : Int)).toNat = b := by omega
  rw [h1, h2]
  have h3 : a ^^^ b < 2 ^ 62 := Nat.xor_lt_two_pow (by omega) (by omega)
  omega
theorem flip (n : Nat) (h : n < 4294967296) : Go.bits .xor .i64 (n : Int) 2147483648 = ((if n < 2147483648 then n + 2147483648 else n - 2147483648 : Nat) : Int) := by
  have := xor_bits n 2147483648 (by omega) (by omega)
  rw [show ((2147483648 : Nat) : Int) = 2147483648 from rfl] at this
  rw [this]
  congr 1
  by_cases h1 : n < 2147483648
  · rw [if_pos h1, xor31 n h1, Nat.add_comm]
  · rw [if_neg h1]
    obtain ⟨m, rfl⟩ : ∃ m, n = 2147483648 + m := ⟨n - 2147483648, by omega⟩
    rw [← xor31 m (by omega), Nat.xor_assoc, Nat.xor_self, Nat.xor_zero, xor31 m (by omega)]
    omega
/-- A number is no float, or it is what it is, and its opposite is its bits with the sign turned. -/
theorem cases_float (a : Int) : (∃ s f, Ieee.single.read (sbits a) = .nan s f) ∨
    (∃ n : Nat, n < 4294967296 ∧ n % 2147483648 ≤ 2139095040 ∧ a = n ∧ sbits a = n) := by
  have hlt : sbits a < 4294967296 := impl_single.lt a
  by_cases h : sbits a % 2147483648 ≤ 2139095040
  · right
    have e : sbits a = a.toNat ∧ 0 ≤ a := by
      unfold sbits at h ⊢
      by_cases c1 : a < 0
      · rw [if_pos c1] at h
        omega
      · rw [if_neg c1] at h ⊢
        by_cases c2 : a > 4294967295
        · rw [if_pos c2] at h
          omega
        · rw [if_neg c2]
          exact ⟨rfl, by omega⟩
    exact ⟨sbits a, hlt, h, by omega, rfl⟩
  · left
    rw [read32 _ hlt, if_neg (by omega), if_neg (by omega), if_neg (by omega)]
    exact ⟨_, _, rfl⟩
theorem sbits_nat (n : Nat) (h : n < 4294967296) : sbits (n : Int) = n := by
  unfold sbits
  rw [if_neg (by omega), if_neg (by omega), Int.toNat_natCast]
theorem fneg_num (n : Nat) (hn : n < 4294967296) (h : n % 2147483648 ≤ 2139095040) : impl_FNeg.f (n : Int) = some ((if n < 2147483648 then n + 2147483648 else n - 2147483648 : Nat) : Int) := by
  unfold impl_FNeg.f impl_FNeg.v
  rw [show impl_single.v (n : Int) = sbits (n : Int) from rfl, sbits_nat n hn]
  have hb := bits_num n hn h
  unfold impl_bitsOf.v at hb
  by_cases c : (Ieee.single.order n n == some .eq) = true
  · rw [if_pos c, flip n hn]
  · rw [if_neg c] at hb
    omega
theorem fneg_nan (a : Int) (h : ∃ s f, Ieee.single.read (sbits a) = .nan s f) : impl_FNeg.f a = some 2143289344 := by
  obtain ⟨s, f, h⟩ := h
  unfold impl_FNeg.f impl_FNeg.v
  rw [show impl_single.v a = sbits a from rfl]
  unfold Ieee.Format.order
  rw [h]
  rfl
theorem first_law : ∃ z : Int, impl_FOfInt.f 3 = some z ∧ z ≠ 0 ∧ ∃ x y, impl_FOfInt.f 1 = some x ∧ impl_FOfInt.f 2 = some y ∧ impl_FAdd.f x y = some z := by
  refine ⟨1077936128, by kernel_rfl, by decide, 1065353216, 1073741824, by kernel_rfl, by kernel_rfl, by kernel_rfl⟩
theorem FnFloatSides (l : List Int) (hg : l.length ≤ maxLen ∧ ∀ y ∈ l, (Lit.int .u8 y).wf = true) : ∃ k, laws_FnFloatSides.f k l = some true := by
  apply Ev.rounds
  unfold laws_FnFloatSides.f laws_big.f
  simp only [Option.bind_some]
  by_cases h : (l.length : Int) > 1048576
  · exact Ev.pos (decide_eq_true h) (Ev.some rfl)
  refine Ev.neg (by simpa using h) ?_
  obtain ⟨a, b, hd⟩ := draw_some l (by omega)
  refine Ev.bind hd ?_
  obtain ⟨z, h3, hz, x, y, h1, h2, h12⟩ := first_law
  rw [h1, h2, h3]
  simp only [Option.bind_some]
  refine Ev.b h12 (Ev.pos rfl ?_)
  rw [beq_eq_false_iff_ne.2 hz]
  refine Ev.succ ?_
  simp only [laws_FnFloatSides.j0]
  refine Ev.neg (by simp) ?_
  rw [impl_fadd, impl_fadd, fadd_dsum b a, dsum_comm, ← fadd_dsum]
  simp only [Option.bind_some]
  refine Ev.pos (by trivial) ?_
  have hm : impl_FMul.f b a = impl_FMul.f a b := by
    unfold impl_FMul.f impl_FMul.v Ieee.Format.mul
    rw [product_comm]
  rw [hm]
  have hmv : impl_FMul.f a b = some (impl_FMul.v a b) := rfl
  rw [hmv]
  simp only [Option.bind_some]
  refine Ev.pos (by trivial) ?_
  have last : Ev (fun k => laws_FnFloatSides.j1 k a b false) true := by
    refine Ev.succ ?_
    simp only [laws_FnFloatSides.j1]
    refine Ev.neg (by simp) ?_
    rcases cases_float a with ha | ⟨n, hn, hn2, rfl, hs⟩
    · rw [fneg_nan a ha]
      simp only [Option.bind_some]
      rw [fneg_nan 2143289344 (by
        refine ⟨decide (2147483648 ≤ 2143289344), 2143289344 % 2147483648 - 2139095040, ?_⟩
        rw [show sbits 2143289344 = 2143289344 from rfl, read32 _ (by omega), if_neg (by omega), if_neg (by omega), if_neg (by omega)])]
      simp only [Option.bind_some]
      refine Ev.pos (by trivial) ?_
      obtain ⟨s, f, ha⟩ := ha
      have e1 : fadd a b = 2143289344 := by
        rw [fadd_dsum, ha]
        generalize Ieee.single.read (sbits b) = Y
        unfold dsum
        cases Y <;> rfl
      have e2 : impl_FLess.v a b = false := by
        unfold impl_FLess.v Ieee.Format.order
        rw [show impl_single.v a = sbits a from rfl, ha]
        generalize Ieee.single.read _ = Y
        cases Y <;> rfl
      refine Ev.b (impl_fadd a b) (Ev.pos e1 ?_)
      refine Ev.b (show impl_FLess.f a b = some (impl_FLess.v a b) from rfl) (Ev.some ?_)
      rw [e2]
      rfl
    · have hx : ∀ m : Nat, m < 4294967296 → m % 2147483648 ≤ 2139095040 → (if (if m < 2147483648 then m + 2147483648 else m - 2147483648) < 2147483648 then (if m < 2147483648 then m + 2147483648 else m - 2147483648) + 2147483648 else (if m < 2147483648 then m + 2147483648 else m - 2147483648) - 2147483648) = m := by
        intro m hm hm2
        by_cases c : m < 2147483648
        · rw [if_pos c, if_neg (by omega)]
          omega
        · rw [if_neg c, if_pos (by omega)]
          omega
      have hlt : (if n < 2147483648 then n + 2147483648 else n - 2147483648) < 4294967296 := by split <;> omega
      have hlt2 : (if n < 2147483648 then n + 2147483648 else n - 2147483648) % 2147483648 ≤ 2139095040 := by split <;> omega
      have hn1 := fneg_num n hn hn2
      have hn3 := fneg_num _ hlt hlt2
      rw [hx n hn hn2] at hn3
      refine Ev.b hn1 (Ev.b hn3 (Ev.neg (by omega) (Ev.pos rfl (Ev.b hn1 (Ev.b (impl_fadd _ _) ?_)))))
      rw [fadd_dsum, sbits_nat n hn, sbits_nat _ hlt, read32 n hn, read32 _ hlt]
      have em : (if n < 2147483648 then n + 2147483648 else n - 2147483648) % 2147483648 = n % 2147483648 := by split <;> omega
      have ef : (if n < 2147483648 then n + 2147483648 else n - 2147483648) % 8388608 = n % 8388608 := by split <;> omega
      have ee : (if n < 2147483648 then n + 2147483648 else n - 2147483648) / 8388608 % 256 = n / 8388608 % 256 := by split <;> omega
      have es : decide (2147483648 ≤ (if n < 2147483648 then n + 2147483648 else n - 2147483648)) = !decide (2147483648 ≤ n) := by
        by_cases c : n < 2147483648
        · rw [if_pos c, decide_eq_true (by omega), decide_eq_false (by omega)]
          rfl
        · rw [if_neg c, decide_eq_false (by omega), decide_eq_true (by omega)]
          rfl
      rw [em, ef, ee, es]
      generalize decide (2147483648 ≤ n) = s
      have zero : ∀ (m : Nat) (p : Int), dsum (.number s m p) (.number (!s) m p) = 0 := by
        intro m p
        rw [dsum_diff s m m p p (Int.le_refl p) (by rw [show (p - p).toNat = 0 by omega, Nat.pow_zero]; omega), show (p - p).toNat = 0 by omega, Nat.pow_zero, Nat.mul_one, Nat.sub_self, if_pos rfl]
        rfl
      by_cases c1 : n % 2147483648 < 8388608
      · rw [if_pos c1, if_pos c1]
        exact Ev.pos (zero _ _) (Ev.some rfl)
      · rw [if_neg c1, if_neg c1]
        by_cases c2 : n % 2147483648 < 2139095040
        · rw [if_pos c2, if_pos c2]
          exact Ev.pos (zero _ _) (Ev.some rfl)
        · have c3 : n % 2147483648 = 2139095040 := by omega
          rw [if_neg c2, if_neg c2, if_pos c3, if_pos c3]
          have e : dsum (.infinity s) (.infinity (!s)) = 2143289344 := by
            unfold dsum
            simp only [Ieee.Datum.sum]
            rw [if_neg (by cases s <;> simp)]
            rfl
          rw [e]
          refine Ev.neg (by omega) ?_
          have em2 : impl_FMul.v (n : Int) 0 = 2143289344 := by
            unfold impl_FMul.v Ieee.Format.mul
            rw [show impl_single.v (n : Int) = sbits (n : Int) from rfl, show impl_single.v 0 = 0 from rfl, sbits_nat n hn, read32 n hn, read32 0 (by omega), if_neg c1, if_neg c2, if_pos c3, if_pos (by omega)]
            rfl
          refine Ev.b (show impl_FMul.f (n : Int) 0 = some (impl_FMul.v (n : Int) 0) from rfl) (Ev.some ?_)
          rw [em2]
          rfl
  refine Ev.b (show impl_FLess.f a b = some (impl_FLess.v a b) from rfl) ?_
  by_cases c : impl_FLess.v a b = true
  · refine Ev.pos c (Ev.b (show impl_FLess.f b a = some (impl_FLess.v b a) from rfl) ?_)
    have : impl_FLess.v b a = false := by
      unfold impl_FLess.v at c ⊢
      rw [beq_iff_eq] at c
      rw [beq_eq_false_iff_ne]
      exact order_lt _ _ c
    rw [this]
    exact last
  · exact Ev.neg c last
end Go.Proofs.Ytpoblnigmfbnfaa.PureFnFloatSides
