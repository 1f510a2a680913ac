/- The pure statement of FnExactSavedOk: program and reference agree on which files' contents are right. -/
import Derived.Test.YtkgknnhecbbfgabPFnExactSavedOkx5
import Derived.Test.YtkgknnhecbbfgabBase

namespace Go.Proofs.Ytkgknnhecbbfgab.PureFnExactSavedOk
set_option linter.unusedVariables false
set_option linter.unusedSimpArgs false
open Go.RowKit Go.Proofs.Ytkgknnhecbbfgab.PFnExactSavedOk Go.Proofs.YtkgknnhecbbfgabW.PrintWords Go.Proofs.YtkgknnhecbbfgabW.PrintLast Go.Proofs.YtkgknnhecbbfgabW.PrintMore Go.Proofs.Ytkgknnhecbbfgab.Base 
/-! ### lists of whole numbers taken over and held against each other -/
theorem toIntS_l (l : List Int) (hn : l.length ≤ 9223372036854775807) : ∀ (d i : Nat), l.length - i = d → i ≤ l.length → Ev (fun k => laws_toIntS.l0 k l (l.take i ++ List.replicate (l.length - i) 0) (i : Int)) l := by
  intro d
  induction d with
  | zero =>
    intro i hd hi
    refine Ev.succ ?_
    simp only [laws_toIntS.l0]
    refine Ev.neg (by omega) (Ev.some ?_)
    rw [hd, List.take_of_length_le (by omega)]
    simp
  | succ d ih =>
    intro i hd hi
    refine Ev.succ ?_
    simp only [laws_toIntS.l0]
    have hlt : i < l.length := by omega
    refine Ev.pos (by omega) (Ev.pos (by omega) (Ev.pos (by simp; omega) ?_))
    rw [rd_at hlt, up i hlt hn, Int.toNat_natCast, set_copy hlt]
    exact ih (i + 1) (by omega) (by omega)
theorem toIntS_ev (l : List Int) (h : l.length ≤ 35184372088832) : Ev (fun k => laws_toIntS.f k l) l := by
  unfold laws_toIntS.f
  refine Ev.pos (by omega) (Ev.pos (by omega) ?_)
  have := toIntS_l l (by omega) l.length 0 (by omega) (by omega)
  simpa using this
theorem eqIntS_l (l : List Int) (hn : l.length ≤ 9223372036854775807) : ∀ (d i : Nat), l.length - i = d → i ≤ l.length → Ev (fun k => laws_eqIntS.l0 k l l (i : Int)) true := by
  intro d
  induction d with
  | zero =>
    intro i hd hi
    refine Ev.succ ?_
    simp only [laws_eqIntS.l0]
    exact Ev.neg (by omega) (Ev.some rfl)
  | succ d ih =>
    intro i hd hi
    refine Ev.succ ?_
    simp only [laws_eqIntS.l0]
    have hlt : i < l.length := by omega
    refine Ev.pos (by omega) (Ev.pos (by omega) (Ev.pos (by omega) (Ev.pos (by trivial) ?_)))
    rw [up i hlt hn]
    exact ih (i + 1) (by omega) (by omega)
theorem eqIntS_ev (l : List Int) (h : l.length ≤ 9223372036854775807) : Ev (fun k => laws_eqIntS.f k l l) true := by
  unfold laws_eqIntS.f
  exact Ev.pos rfl (eqIntS_l l (by omega) l.length 0 (by omega) (by omega))
/-! ### leaves -/
theorem within_f (a b c : Int) : impl_within.f a b c = some (decide (b ≤ a) && decide (a ≤ c)) := by
  unfold impl_within.f
  by_cases h : b ≤ a
  · rw [if_pos (show a ≥ b from h)]
    simp [h]
  · rw [if_neg (show ¬ a ≥ b from h)]
    simp [h]
theorem l5In_f (a b c : Int) : spec_l5In.f a b c = some (decide (b ≤ a) && decide (a ≤ c)) := within_f a b c
theorem istate_f (a : Int) : impl_isState.f a = some (decide (0 ≤ a) && decide (a < 4294967296)) := by
  unfold impl_isState.f
  by_cases h : 0 ≤ a
  · rw [if_pos (show a ≥ 0 from h)]
    simp [h]
  · rw [if_neg (show ¬ a ≥ 0 from h)]
    simp [h]
theorem sstate_f (a : Int) : spec_l16State.f a = some (decide (0 ≤ a) && decide (a < 4294967296)) := istate_f a
/-! ### feeds -/
def feedB (a0 a1 a2 a3 a4 a5 : Int) : Bool := decide ((1 ≤ a0 ∧ a0 ≤ 4096) ∧ (1 ≤ a1 ∧ a1 ≤ a0) ∧ (0 ≤ a2 ∧ a2 < 4294967296) ∧ (0 ≤ a3 ∧ a3 ≤ 1000000) ∧ (1 ≤ a5 ∧ a5 ≤ 64) ∧ (0 ≤ a4 ∧ a4 ≤ a0 - a1) ∧ Int.tmod a4 a1 = 0)
theorem sfeed_f (a0 a1 a2 a3 a4 a5 : Int) : spec_FeedOk.f a0 a1 a2 a3 a4 a5 = some (feedB a0 a1 a2 a3 a4 a5) := by
  unfold spec_FeedOk.f feedB
  simp only [l5In_f, sstate_f, Option.bind_some]
  by_cases c0 : 1 ≤ a0 ∧ a0 ≤ 4096
  · rw [if_pos (by simpa using c0)]
    by_cases c1 : 1 ≤ a1 ∧ a1 ≤ a0
    · rw [if_pos (by simpa using c1), wrap_id (by omega) (by omega)]
      by_cases c2 : 0 ≤ a2 ∧ a2 < 4294967296
      · rw [if_pos (by simpa using c2)]
        by_cases c3 : 0 ≤ a3 ∧ a3 ≤ 1000000
        · rw [if_pos (by simpa using c3)]
          by_cases c5 : 1 ≤ a5 ∧ a5 ≤ 64
          · rw [if_pos (by simpa using c5)]
            by_cases c4 : 0 ≤ a4 ∧ a4 ≤ a0 - a1
            · rw [if_pos (by simpa using c4), if_neg (by omega)]
              refine congrArg some ?_
              rw [show (Int.tmod a4 a1 == 0) = decide (Int.tmod a4 a1 = 0) from rfl]
              exact decide_eq_decide.2 (by omega)
            · rw [if_neg (by simpa using c4)]
              exact congrArg some (decide_eq_false (by omega)).symm
          · rw [if_neg (by simpa using c5)]
            exact congrArg some (decide_eq_false (by omega)).symm
        · rw [if_neg (by simpa using c3)]
          exact congrArg some (decide_eq_false (by omega)).symm
      · rw [if_neg (by simpa using c2)]
        exact congrArg some (decide_eq_false (by omega)).symm
    · rw [if_neg (by simpa using c1)]
      exact congrArg some (decide_eq_false (by omega)).symm
  · rw [if_neg (by simpa using c0)]
    exact congrArg some (decide_eq_false (by omega)).symm
theorem ifeed_f (a0 a1 a2 a3 a4 a5 : Int) : impl_FeedOk.f a0 a1 a2 a3 a4 a5 = some (feedB a0 a1 a2 a3 a4 a5) := by
  unfold impl_FeedOk.f feedB
  simp only [within_f, istate_f, Option.bind_some]
  by_cases c2 : 0 ≤ a2 ∧ a2 < 4294967296
  · rw [if_pos (by simpa using c2)]
    by_cases c0 : 1 ≤ a0 ∧ a0 ≤ 4096
    · rw [if_pos (by simpa using c0)]
      by_cases c1 : 1 ≤ a1 ∧ a1 ≤ a0
      · rw [if_pos (by simpa using c1), wrap_id (by omega) (by omega)]
        by_cases c3 : 0 ≤ a3 ∧ a3 ≤ 1000000
        · rw [if_pos (by simpa using c3)]
          by_cases c4 : 0 ≤ a4 ∧ a4 ≤ a0 - a1
          · rw [if_pos (by simpa using c4), if_neg (by omega)]
            by_cases c6 : Int.tmod a4 a1 = 0
            · rw [if_pos c6]
              refine congrArg some ?_
              rw [show (decide (1 ≤ a5) && decide (a5 ≤ 64)) = decide (1 ≤ a5 ∧ a5 ≤ 64) by simp]
              exact decide_eq_decide.2 (by omega)
            · rw [if_neg c6]
              exact congrArg some (decide_eq_false (by omega)).symm
          · rw [if_neg (by simpa using c4)]
            exact congrArg some (decide_eq_false (by omega)).symm
        · rw [if_neg (by simpa using c3)]
          exact congrArg some (decide_eq_false (by omega)).symm
      · rw [if_neg (by simpa using c1)]
        exact congrArg some (decide_eq_false (by omega)).symm
    · rw [if_neg (by simpa using c0)]
      exact congrArg some (decide_eq_false (by omega)).symm
  · rw [if_neg (by simpa using c2)]
    exact congrArg some (decide_eq_false (by omega)).symm
/-! ### powers of two -/
theorem and_nat (a b : Nat) (ha : a < 4611686018427387904) (hb : b < 4611686018427387904) : Go.bits .and .i64 (a : Int) (b : Int) = ((a &&& b : Nat) : Int) := by
  have h1 : (BitVec.ofInt 64 (a : Int)).toNat = a := by
    rw [BitVec.toNat_ofInt]
    omega
  have h2 : (BitVec.ofInt 64 (b : Int)).toNat = b := by
    rw [BitVec.toNat_ofInt]
    omega
  show IntKind.i64.wrap ((BitVec.ofInt 64 (a : Int) &&& BitVec.ofInt 64 (b : Int)).toNat : Nat) = _
  have hle : a &&& b ≤ a := Nat.and_le_left
  rw [BitVec.toNat_and, h1, h2, IntKind.wrap_i64]
  omega
theorem two_of (e : Nat) : ∀ n : Nat, 1 ≤ n → n ≤ 2 ^ e → n &&& (n - 1) = 0 → ∃ j, j ≤ e ∧ n = 2 ^ j := by
  induction e with
  | zero =>
    intro n h1 h2 _
    exact ⟨0, by omega, by simp at h2 ⊢; omega⟩
  | succ e ih =>
    intro n h1 h2 h
    have hd : (n &&& (n - 1)) / 2 = n / 2 &&& (n - 1) / 2 := Nat.and_div_two
    rw [h] at hd
    rcases Nat.mod_two_eq_zero_or_one n with h0 | h0
    · rw [show (n - 1) / 2 = n / 2 - 1 by omega] at hd
      obtain ⟨j, hj, e1⟩ := ih (n / 2) (by omega) (by rw [Nat.pow_succ] at h2; omega) hd.symm
      exact ⟨j + 1, by omega, by rw [Nat.pow_succ, ← e1]; omega⟩
    · rw [show (n - 1) / 2 = n / 2 by omega, Nat.and_self] at hd
      exact ⟨0, by omega, by simp; omega⟩
theorem two_l (s0 s1 s2 : List Int) (a3 a a5 : Int) : ∀ (d j : Nat), 17 - j = d → j ≤ 17 → ∃ b, Ev (fun k => spec_OptOk.l1 k ((2 ^ j : Nat) : Int) s0 s1 s2 a3 a a5) b ∧ (b = true ↔ ∃ i, j ≤ i ∧ i ≤ 16 ∧ a = ((2 ^ i : Nat) : Int)) := by
  intro d
  induction d with
  | zero =>
    intro j hd hj
    obtain rfl : j = 17 := by omega
    refine ⟨false, Ev.succ ?_, ⟨fun h => (by cases h), fun ⟨i, h1, h2, _⟩ => by omega⟩⟩
    simp only [spec_OptOk.l1]
    exact Ev.neg (by decide) (Ev.some rfl)
  | succ d ih =>
    intro j hd hj
    have hp : (2 : Nat) ^ j ≤ 2 ^ 16 := Nat.pow_le_pow_right (by decide) (by omega)
    have hp0 : 0 < (2 : Nat) ^ j := Nat.pow_pos (by decide)
    by_cases e : ((2 ^ j : Nat) : Int) = a
    · refine ⟨true, Ev.succ ?_, ⟨fun _ => ⟨j, by omega, by omega, e.symm⟩, fun _ => rfl⟩⟩
      simp only [spec_OptOk.l1]
      exact Ev.pos (by omega) (Ev.pos e (Ev.some rfl))
    · obtain ⟨b, eb, hb⟩ := ih (j + 1) (by omega) (by omega)
      refine ⟨b, Ev.succ ?_, ?_⟩
      · simp only [spec_OptOk.l1]
        refine Ev.pos (by omega) (Ev.neg e ?_)
        rw [wrap_id (by omega) (by omega), show ((2 ^ j : Nat) : Int) * 2 = ((2 ^ (j + 1) : Nat) : Int) by rw [Nat.pow_succ]; omega]
        exact eb
      · rw [hb]
        constructor
        · rintro ⟨i, h1, h2, h3⟩
          exact ⟨i, by omega, h2, h3⟩
        · rintro ⟨i, h1, h2, h3⟩
          by_cases hij : i = j
          · subst hij
            exact absurd h3.symm e
          · exact ⟨i, by omega, h2, h3⟩
theorem two_iff (a : Int) (h1 : 1 ≤ a) (h2 : a ≤ 65536) : (Go.bits .and .i64 a (wrap64 (a - 1)) = 0) ↔ ∃ i, 0 ≤ i ∧ i ≤ 16 ∧ a = ((2 ^ i : Nat) : Int) := by
  obtain ⟨n, rfl⟩ : ∃ n : Nat, a = n := ⟨a.toNat, by omega⟩
  rw [wrap_id (by omega) (by omega), show (n : Int) - 1 = ((n - 1 : Nat) : Int) by omega, and_nat n (n - 1) (by omega) (by omega)]
  constructor
  · intro h
    obtain ⟨j, hj, e⟩ := two_of 16 n (by omega) (by omega) (by omega)
    exact ⟨j, by omega, hj, by rw [e]⟩
  · rintro ⟨i, _, hi, e⟩
    have e : n = 2 ^ i := by omega
    subst e
    rw [Nat.and_two_pow_sub_one_eq_mod, Nat.mod_self]
    rfl
/-! ### states of an optimiser -/
def inB (lo hi : Int) (l : List Int) : Bool := l.all fun x => decide (lo ≤ x) && decide (x ≤ hi)
theorem all_l (lo hi : Int) (l : List Int) (hn : l.length ≤ 9223372036854775807) : ∀ (d i : Nat), l.length - i = d → i ≤ l.length → Ev (fun k => impl_allWithin.l0 k lo hi l (l.length : Int) (i : Int)) (inB lo hi (l.drop i)) := by
  intro d
  induction d with
  | zero =>
    intro i hd hi'
    refine Ev.succ ?_
    simp only [impl_allWithin.l0]
    refine Ev.neg (by omega) (Ev.some ?_)
    rw [List.drop_eq_nil_of_le (by omega)]
    rfl
  | succ d ih =>
    intro i hd hi'
    have hlt : i < l.length := by omega
    refine Ev.succ ?_
    simp only [impl_allWithin.l0]
    refine Ev.pos (by omega) (Ev.pos (by omega) (Ev.pos (by omega) ?_))
    rw [rd_at hlt, drop_at hlt, up i hlt hn, within_f]
    simp only [Option.bind_some]
    refine Ev.ite (fun h => ?_) (fun h => Ev.some ?_)
    · rw [show inB lo hi (l[i] :: l.drop (i + 1)) = inB lo hi (l.drop (i + 1)) by simp only [inB, List.all_cons, h, Bool.true_and]]
      exact ih (i + 1) (by omega) (by omega)
    · simp only [Bool.not_eq_true] at h
      simp only [inB, List.all_cons, h, Bool.false_and]
theorem all_ev (lo hi : Int) (l : List Int) (hn : l.length ≤ 9223372036854775807) : Ev (fun k => impl_allWithin.f k l lo hi) (inB lo hi l) := all_l lo hi l hn l.length 0 (by omega) (by omega)
def triB : List Int → List Int → List Int → Bool
  | x :: xs, y :: ys, z :: zs => (decide (-68719476736 ≤ x) && decide (x ≤ 68719476736)) && ((decide (-4294967296 ≤ y) && decide (y ≤ 4294967296)) && ((decide (0 ≤ z) && decide (z ≤ 17179869184)) && triB xs ys zs))
  | _, _, _ => true
theorem tri_eq : ∀ (xs ys zs : List Int), ys.length = xs.length → zs.length = xs.length → triB xs ys zs = (inB (-68719476736) 68719476736 xs && (inB (-4294967296) 4294967296 ys && inB 0 17179869184 zs))
  | [], [], [], _, _ => rfl
  | x :: xs, y :: ys, z :: zs, h1, h2 => by
    have ih := tri_eq xs ys zs (by simpa using h1) (by simpa using h2)
    simp only [triB, ih, inB, List.all_cons]
    generalize (decide (-68719476736 ≤ x) && decide (x ≤ 68719476736)) = p
    generalize (decide (-4294967296 ≤ y) && decide (y ≤ 4294967296)) = q
    generalize (decide (0 ≤ z) && decide (z ≤ 17179869184)) = r
    cases p <;> cases q <;> cases r <;> simp
  | [], _ :: _, _, h, _ => by simp at h
  | [], [], _ :: _, _, h => by simp at h
  | _ :: _, [], _, h, _ => by simp at h
  | _ :: _, _ :: _, [], _, h => by simp at h
theorem sopt_l (s0 s1 s2 : List Int) (a3 a4 a5 : Int) (h1 : s1.length = s0.length) (h2 : s2.length = s0.length) (hn : s0.length ≤ 4096) (b : Bool) (hb : Ev (fun k => spec_OptOk.l1 k 1 s0 s1 s2 a3 a4 a5) b) :
    ∀ (d i : Nat), s0.length - i = d → i ≤ s0.length → Ev (fun k => spec_OptOk.l0 k (i : Int) s0 s1 s2 a3 a4 a5) (triB (s0.drop i) (s1.drop i) (s2.drop i) && b) := by
  intro d
  induction d with
  | zero =>
    intro i hd hi
    refine Ev.succ ?_
    simp only [spec_OptOk.l0]
    rw [show s0.drop i = [] from List.drop_eq_nil_of_le (by omega)]
    exact Ev.neg (by omega) (by simpa [triB] using hb)
  | succ d ih =>
    intro i hd hi
    have g0 : i < s0.length := by omega
    have g1 : i < s1.length := by omega
    have g2 : i < s2.length := by omega
    refine Ev.succ ?_
    simp only [spec_OptOk.l0]
    refine Ev.pos (by omega) (Ev.pos (by omega) ?_)
    rw [rd_at g0, rd_at g1, rd_at g2, drop_at g0, drop_at g1, drop_at g2, up i g0 (by omega)]
    simp only [l5In_f, Option.bind_some, triB]
    refine Ev.ite (fun c0 => Ev.pos (by omega) (Ev.ite (fun c1 => Ev.pos (by omega) (Ev.ite (fun c2 => ?_) (fun c2 => Ev.some ?_))) (fun c1 => Ev.some ?_))) (fun c0 => Ev.some ?_)
    · rw [c0, c1, c2]
      exact ih (i + 1) (by omega) (by omega)
    · simp only [Bool.not_eq_true] at c2
      rw [c0, c1, c2]
      rfl
    · simp only [Bool.not_eq_true] at c1
      rw [c0, c1]
      rfl
    · simp only [Bool.not_eq_true] at c0
      rw [c0]
      rfl
theorem opt_ev (s0 s1 s2 : List Int) (a3 a4 a5 : Int) (n0 : s0.length ≤ 9223372036854775807) (n1 : s1.length ≤ 9223372036854775807) (n2 : s2.length ≤ 9223372036854775807) :
    ∃ b, Ev (fun k => spec_OptOk.f k s0 s1 s2 a3 a4 a5) b ∧ Ev (fun k => impl_OptOk.f k s0 s1 s2 a3 a4 a5) b := by
  have j : Ev (fun k => spec_OptOk.j0 k true s0 s1 s2 a3 a4 a5) false := Ev.succ (by simp only [spec_OptOk.j0]; exact Ev.pos (by trivial) (Ev.some rfl))
  unfold spec_OptOk.f impl_OptOk.f
  by_cases c0 : (s0.length : Int) ≤ 4096
  · by_cases c1 : (s1.length : Int) = (s0.length : Int)
    · by_cases c2 : (s2.length : Int) = (s0.length : Int)
      · obtain ⟨b, hb, hi⟩ := two_l s0 s1 s2 a3 a4 a5 17 0 (by omega) (by omega)
        have S := sopt_l s0 s1 s2 a3 a4 a5 (by omega) (by omega) (by omega) b hb s0.length 0 (by omega) (by omega)
        simp only [List.drop_zero] at S
        rw [tri_eq s0 s1 s2 (by omega) (by omega)] at S
        have e0 := all_ev (-68719476736) 68719476736 s0 n0
        have e1 := all_ev (-4294967296) 4294967296 s1 n1
        have e2 := all_ev 0 17179869184 s2 n2
        refine ⟨(decide (0 ≤ a3) && decide (a3 ≤ 1000000)) && ((decide (0 ≤ a5) && decide (a5 ≤ 1000000)) && (inB (-68719476736) 68719476736 s0 && (inB (-4294967296) 4294967296 s1 && inB 0 17179869184 s2) && b)), ?_, ?_⟩
        · refine Ev.neg (by omega) (Ev.pos c1 (Ev.pos c2 ?_))
          simp only [l5In_f, Option.bind_some]
          refine Ev.ite (fun c3 => ?_) (fun c3 => ?_)
          · rw [c3, Bool.true_and]
            cases c5 : (decide (0 ≤ a5) && decide (a5 ≤ 1000000)) with
            | false => exact j
            | true =>
              refine Ev.succ ?_
              simp only [spec_OptOk.j0]
              exact Ev.neg (by simp) S
          · simp only [Bool.not_eq_true] at c3
            rw [c3]
            exact j
        · refine Ev.pos c0 (Ev.pos c1 (Ev.pos c2 (Ev.bind e0 ?_)))
          generalize hp0 : inB (-68719476736) 68719476736 s0 = p0
          rw [hp0] at e0
          cases p0 with
          | false => exact Ev.neg (by simp) (Ev.some (by simp))
          | true =>
            refine Ev.pos rfl (Ev.bind e1 ?_)
            generalize inB (-4294967296) 4294967296 s1 = p1
            cases p1 with
            | false => exact Ev.neg (by simp) (Ev.some (by simp))
            | true =>
              refine Ev.pos rfl (Ev.bind e2 ?_)
              generalize inB 0 17179869184 s2 = p2
              cases p2 with
              | false => exact Ev.neg (by simp) (Ev.some (by simp))
              | true =>
                simp only [within_f, Option.bind_some]
                refine Ev.pos (by trivial) ?_
                refine Ev.ite (fun c3 => ?_) (fun c3 => Ev.some ?_)
                · rw [c3]
                  refine Ev.ite (fun c4 => ?_) (fun c4 => Ev.some ?_)
                  · simp only [Bool.and_eq_true, decide_eq_true_eq] at c4
                    have ti := two_iff a4 c4.1 c4.2
                    refine Ev.ite (fun c6 => Ev.some ?_) (fun c6 => Ev.some ?_)
                    · have hbt : b = true := hi.2 (ti.1 c6)
                      rw [hbt]
                      simp
                    · have hbf : b = false := by
                        cases b with
                        | false => rfl
                        | true => exact absurd (ti.2 (hi.1 rfl)) c6
                      rw [hbf]
                      simp
                  · have hbf : b = false := by
                      cases b with
                      | false => rfl
                      | true =>
                        obtain ⟨i, h1, h2, h3⟩ := hi.1 rfl
                        have hp : (2 : Nat) ^ i ≤ 2 ^ 16 := Nat.pow_le_pow_right (by decide) h2
                        have hp0 : 0 < (2 : Nat) ^ i := Nat.pow_pos (by decide)
                        exact absurd (by simp; omega) c4
                    rw [hbf]
                    simp
                · simp only [Bool.not_eq_true] at c3
                  rw [c3]
                  rfl
      · exact ⟨false, Ev.neg (by omega) (Ev.pos c1 (Ev.neg c2 j)), Ev.pos c0 (Ev.pos c1 (Ev.neg c2 (Ev.some rfl)))⟩
    · exact ⟨false, Ev.neg (by omega) (Ev.neg c1 j), Ev.pos c0 (Ev.neg c1 (Ev.some rfl))⟩
  · exact ⟨false, Ev.pos (by omega) j, Ev.neg c0 (Ev.some rfl)⟩
theorem FnExactSavedOk (t : ByteArray) (s0 s1 s2 : List Int) (a4 a5 a6 a7 a8 a9 a10 a11 a12 : Int) {g0 g1 g2 : Int → Prop} {D G : Prop} (hg : t.size ≤ maxLen ∧ ((s0.length ≤ maxLen ∧ ∀ y ∈ s0, g0 y) ∧ (s1.length ≤ maxLen ∧ ∀ y ∈ s1, g1 y) ∧ (s2.length ≤ maxLen ∧ ∀ y ∈ s2, g2 y) ∧ D) ∧ G) :
    ∃ k, laws_FnExactSavedOk.f k t s0 s1 s2 a4 a5 a6 a7 a8 a9 a10 a11 a12 = some true := by
  have mt : t.size ≤ 9223372036854775807 := hg.1
  have m0 : s0.length ≤ 9223372036854775807 := hg.2.1.1.1
  have m1 : s1.length ≤ 9223372036854775807 := hg.2.1.2.1.1
  have m2 : s2.length ≤ 9223372036854775807 := hg.2.1.2.2.1.1
  apply Ev.rounds
  unfold laws_FnExactSavedOk.f
  have sz : ∃ q, laws_szSaved.f t s0 s1 s2 a4 a5 a6 a7 a8 a9 a10 a11 a12 1048576 = some q ∧ (q < 0 ∨ (0 ≤ q ∧ s0.length ≤ 1048576 ∧ s1.length ≤ 1048576 ∧ s2.length ≤ 1048576)) := by
    unfold laws_szSaved.f laws_szOpt.f laws_szIntS.f
    rw [wrap_id (by omega : -9223372036854775808 ≤ 1048576 - (t.size : Int)) (by omega)]
    by_cases c : (1048576 : Int) - (t.size : Int) < 0
    · exact ⟨-1, by rw [if_pos c], .inl (by omega)⟩
    rw [if_neg c, wrap_id (by omega : -9223372036854775808 ≤ 1048576 - (t.size : Int) - (s0.length : Int)) (by omega)]
    by_cases c0 : (1048576 : Int) - (t.size : Int) - (s0.length : Int) < 0
    · exact ⟨-1, by rw [if_pos c0]; simp, .inl (by omega)⟩
    rw [if_neg c0]
    simp only [Option.bind_some]
    rw [if_neg c0, wrap_id (by omega : -9223372036854775808 ≤ 1048576 - (t.size : Int) - (s0.length : Int) - (s1.length : Int)) (by omega)]
    by_cases c1 : (1048576 : Int) - (t.size : Int) - (s0.length : Int) - (s1.length : Int) < 0
    · exact ⟨-1, by rw [if_pos c1]; simp, .inl (by omega)⟩
    rw [if_neg c1]
    simp only [Option.bind_some]
    rw [if_neg c1, wrap_id (by omega : -9223372036854775808 ≤ 1048576 - (t.size : Int) - (s0.length : Int) - (s1.length : Int) - (s2.length : Int)) (by omega)]
    by_cases c2 : (1048576 : Int) - (t.size : Int) - (s0.length : Int) - (s1.length : Int) - (s2.length : Int) < 0
    · exact ⟨-1, by rw [if_pos c2]; simp, .inl (by omega)⟩
    rw [if_neg c2]
    simp only [Option.bind_some]
    rw [if_neg c2]
    simp only [Option.bind_some]
    rw [if_neg c2]
    exact ⟨_, rfl, .inr ⟨by omega, by omega, by omega, by omega⟩⟩
  obtain ⟨q, eq, hq⟩ := sz
  refine Ev.b eq ?_
  rcases hq with hq | ⟨hq, l0, l1, l2⟩
  · exact Ev.pos hq (Ev.some rfl)
  refine Ev.neg (by omega) ?_
  have ts : Ev (fun k => laws_toSaved.f k t s0 s1 s2 a4 a5 a6 a7 a8 a9 a10 a11 a12) (t, s0, s1, s2, a4, a5, a6, a7, a8, a9, a10, a11, a12) := by
    unfold laws_toSaved.f laws_toOpt.f laws_toFeed.f
    exact Ev.bind (a := (s0, s1, s2, a4, a5, a6)) (Ev.bind (toIntS_ev s0 (by omega)) (Ev.bind (toIntS_ev s1 (by omega)) (Ev.bind (toIntS_ev s2 (by omega)) (Ev.some rfl)))) (Ev.b rfl (Ev.some rfl))
  have es : Ev (fun k => laws_eqSaved.f k t s0 s1 s2 a4 a5 a6 a7 a8 a9 a10 a11 a12 t s0 s1 s2 a4 a5 a6 a7 a8 a9 a10 a11 a12) true := by
    unfold laws_eqSaved.f laws_eqOpt.f laws_eqFeed.f
    refine Ev.pos rfl (Ev.bind (a := true) (Ev.bind (eqIntS_ev s0 (by omega)) (Ev.pos rfl (Ev.bind (eqIntS_ev s1 (by omega)) (Ev.pos rfl (Ev.bind (eqIntS_ev s2 (by omega)) (Ev.pos rfl (Ev.pos rfl (Ev.pos rfl (Ev.pos rfl (Ev.some rfl)))))))))) (Ev.pos rfl ?_))
    exact Ev.b (a := true) (by simp) (Ev.pos rfl (Ev.some rfl))
  obtain ⟨b, b1, b2⟩ := opt_ev s0 s1 s2 a4 a5 a6 m0 m1 m2
  have both : ∃ r, Ev (fun k => spec_SavedOk.f k t s0 s1 s2 a4 a5 a6 a7 a8 a9 a10 a11 a12) r ∧ Ev (fun k => impl_SavedOk.f k t s0 s1 s2 a4 a5 a6 a7 a8 a9 a10 a11 a12) r := by
    unfold spec_SavedOk.f impl_SavedOk.f
    by_cases c : (t.size : Int) ≤ 4000
    · cases b with
      | false => exact ⟨false, Ev.pos c (Ev.bind b1 (Ev.neg (by simp) (Ev.some rfl))), Ev.pos c (Ev.bind b2 (Ev.neg (by simp) (Ev.some rfl)))⟩
      | true => exact ⟨_, Ev.pos c (Ev.bind b1 (Ev.pos rfl (Ev.b (sfeed_f _ _ _ _ _ _) (Ev.some rfl)))), Ev.pos c (Ev.bind b2 (Ev.pos rfl (Ev.b (ifeed_f _ _ _ _ _ _) (Ev.some rfl))))⟩
    · exact ⟨false, Ev.neg c (Ev.some rfl), Ev.neg c (Ev.some rfl)⟩
  obtain ⟨r, r1, r2⟩ := both
  exact Ev.bind ts (Ev.bind r1 (Ev.bind ts (Ev.bind r2 (Ev.neg (by simp) (Ev.bind ts (Ev.bind es (Ev.pos rfl (Ev.some rfl))))))))
end Go.Proofs.Ytkgknnhecbbfgab.PureFnExactSavedOk
