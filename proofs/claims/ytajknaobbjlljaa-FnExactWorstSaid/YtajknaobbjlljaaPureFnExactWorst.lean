/- The pure statement of FnExactWorst: program and reference tell the same worst distance, whatever the scale and the reals. -/
import Derived.Test.YtajknaobbjlljaaPFnExactWorstx4
import Derived.Test.YtajknaobbjlljaaAid
namespace Go.Proofs.Ytajknaobbjlljaa.PureFnExactWorst
open Go.RowKit Go.Proofs.Ytajknaobbjlljaa.PFnExactWorst Go.Proofs.YtajknaobbjlljaaW.PrintWords Go.Proofs.YtajknaobbjlljaaW.PrintLast Go.Proofs.YtajknaobbjlljaaW.PrintMore Go.Proofs.Ytajknaobbjlljaa.Aid
/-! ### lists taken over and held against each other -/
theorem toIntS_l (l : List Int) (hn : l.length ≤ 9223372036854775807) : ∀ (d i : Nat), l.length - i = d → i ≤ l.length → Ev (fun k => laws_toIntS.l0 k l (l.take i ++ List.replicate (l.length - i) 0) (i : Int)) l := by
  intro d
  induction d with
  | zero =>
    intro i hd hi
    refine Ev.succ ?_
    simp only [laws_toIntS.l0]
    refine Ev.neg (by omega) (Ev.some ?_)
    rw [hd, List.take_of_length_le (by omega)]
    simp
  | succ d ih =>
    intro i hd hi
    refine Ev.succ ?_
    simp only [laws_toIntS.l0]
    have hlt : i < l.length := by omega
    refine Ev.pos (by omega) (Ev.pos (by omega) (Ev.pos (by simp; omega) ?_))
    rw [rd_at hlt, up i hlt hn, Int.toNat_natCast, set_copy hlt]
    exact ih (i + 1) (by omega) (by omega)
theorem toIntS_ev (l : List Int) (h : l.length ≤ 35184372088832) : Ev (fun k => laws_toIntS.f k l) l := by
  unfold laws_toIntS.f
  refine Ev.pos (by omega) (Ev.pos (by omega) ?_)
  have := toIntS_l l (by omega) l.length 0 (by omega) (by omega)
  simpa using this
theorem eqIntS_l (l : List Int) (hn : l.length ≤ 9223372036854775807) : ∀ (d i : Nat), l.length - i = d → i ≤ l.length → Ev (fun k => laws_eqIntS.l0 k l l (i : Int)) true := by
  intro d
  induction d with
  | zero =>
    intro i hd hi
    refine Ev.succ ?_
    simp only [laws_eqIntS.l0]
    exact Ev.neg (by omega) (Ev.some rfl)
  | succ d ih =>
    intro i hd hi
    refine Ev.succ ?_
    simp only [laws_eqIntS.l0]
    have hlt : i < l.length := by omega
    refine Ev.pos (by omega) (Ev.pos (by omega) (Ev.pos (by omega) (Ev.pos trivial ?_)))
    rw [up i hlt hn]
    exact ih (i + 1) (by omega) (by omega)
theorem eqIntS_ev (l : List Int) (h : l.length ≤ 35184372088832) : Ev (fun k => laws_eqIntS.f k l l) true := by
  unfold laws_eqIntS.f
  exact Ev.pos rfl (eqIntS_l l (by omega) l.length 0 (by omega) (by omega))
/-! ### what both sides share -/
theorem l5In_eq (a b c : Int) : spec_l5In.f a b c = impl_within.f a b c := rfl
theorem within_f (a b c : Int) : impl_within.f a b c = some (decide (b ≤ a) && decide (a ≤ c)) := by
  unfold impl_within.f
  by_cases h : b ≤ a
  · rw [if_pos (show a ≥ b from h)]
    simp [h]
  · rw [if_neg (show ¬ a ≥ b from h)]
    simp [h]
theorem scale_eq (a b : Int) : spec_ScaleOk.f a b = impl_ScaleOk.f a b := by
  unfold spec_ScaleOk.f impl_ScaleOk.f impl_isByte.f
  simp [l5In_eq, within_f]
theorem scale_f (a b : Int) : impl_ScaleOk.f a b = some (decide (1 ≤ a) && decide (a ≤ 1099511627776) && (decide (0 ≤ b) && decide (b ≤ 255))) := by
  unfold impl_ScaleOk.f impl_isByte.f
  simp only [within_f, Option.bind_some]
  split
  · next h => simp [h]
  · next h => simp at h; simp; omega
theorem real_eq (a : Int) : spec_l14Real.f a = impl_isReal.f a := rfl
theorem real_f (a : Int) : impl_isReal.f a = some (decide (-1099511627776 ≤ a) && decide (a ≤ 1099511627776)) := by
  unfold impl_isReal.f
  simp only [within_f, Option.bind_some]
theorem near_some (q r d : Int) : ∃ v, impl_near.f q r d = some v := by
  unfold impl_near.f
  split
  · exact ⟨_, rfl⟩
  · split
    · split <;> exact ⟨_, rfl⟩
    · exact ⟨_, rfl⟩
theorem Near_ev (a b : Int) : ∃ v, Ev (fun k => impl_Near.f k a b) v ∧ Ev (fun k => spec_Near.f k a b) v := by
  have hb : ∀ c : Bool, (b < 1 → c = true) → ∃ v, Ev (fun k => impl_Near.j0 k a b c) v ∧ Ev (fun k => spec_Near.j0 k a b c) v := by
    intro c hc
    cases c with
    | true => exact ⟨0, Ev.succ (by simp only [impl_Near.j0]; exact Ev.pos trivial (Ev.some rfl)), Ev.succ (by simp only [spec_Near.j0]; exact Ev.pos trivial (Ev.some rfl))⟩
    | false =>
      have h1 : ¬ b = 0 := fun e => by have := hc (by omega); cases this
      by_cases h2 : Int.tmod a b < 0
      · obtain ⟨v, hv⟩ := near_some (wrap64 ((wrap64 (Int.tdiv a b)) - 1)) (wrap64 ((Int.tmod a b) + b)) b
        refine ⟨v, Ev.succ ?_, Ev.succ ?_⟩
        · simp only [impl_Near.j0]
          exact Ev.neg (by simp) (Ev.neg h1 (Ev.pos h2 (Ev.b hv (Ev.some rfl))))
        · simp only [spec_Near.j0]
          exact Ev.neg (by simp) (Ev.neg h1 (Ev.pos h2 (Ev.b (show spec_l2Round.f _ _ _ = _ from hv) (Ev.some rfl))))
      · obtain ⟨v, hv⟩ := near_some (wrap64 (Int.tdiv a b)) (Int.tmod a b) b
        refine ⟨v, Ev.succ ?_, Ev.succ ?_⟩
        · simp only [impl_Near.j0]
          exact Ev.neg (by simp) (Ev.neg h1 (Ev.neg h2 (Ev.b hv (Ev.some rfl))))
        · simp only [spec_Near.j0]
          exact Ev.neg (by simp) (Ev.neg h1 (Ev.neg h2 (Ev.b (show spec_l2Round.f _ _ _ = _ from hv) (Ev.some rfl))))
  unfold impl_Near.f spec_Near.f
  by_cases h : b < 1
  · obtain ⟨v, h1, h2⟩ := hb true (fun _ => rfl)
    exact ⟨v, Ev.pos h h1, Ev.pos h h2⟩
  · obtain ⟨v, h1, h2⟩ := hb (decide (b > 4611686018427387904)) (fun e => absurd e h)
    exact ⟨v, Ev.neg h h1, Ev.neg h h2⟩
theorem clip_eq (a : Int) : ∃ v, spec_l14Clip.f a 0 255 = some v ∧ impl_bring_int.f a 0 255 = some v := by
  unfold spec_l14Clip.f impl_bring_int.f mx mn
  by_cases h1 : a < 0
  · exact ⟨0, by rw [if_pos h1], by rw [if_neg (show ¬ (255 : Int) < a by omega), if_neg (show ¬ (0 : Int) < a by omega)]⟩
  · by_cases h2 : a > 255
    · exact ⟨255, by rw [if_neg h1, if_pos h2], by rw [if_pos (show (255 : Int) < a from h2), if_pos (by omega)]⟩
    · refine ⟨a, by rw [if_neg h1, if_neg h2], ?_⟩
      rw [if_neg (show ¬ (255 : Int) < a by omega)]
      by_cases h3 : (0 : Int) < a
      · rw [if_pos h3]
      · rw [if_neg h3, show a = 0 by omega]
theorem quant_ev (s z x : Int) : ∃ v, Ev (fun k => impl_Quantise.f k s z x) v ∧ Ev (fun k => spec_Quantise.f k s z x) v := by
  have key : ∀ c : Bool, ∃ v, Ev (fun k => impl_Quantise.j0 k x c s z) v ∧ Ev (fun k => spec_Quantise.j0 k x c s z) v := by
    intro c
    cases c with
    | true => exact ⟨0, Ev.succ (by simp only [impl_Quantise.j0]; exact Ev.pos trivial (Ev.some rfl)), Ev.succ (by simp only [spec_Quantise.j0]; exact Ev.pos trivial (Ev.some rfl))⟩
    | false =>
      obtain ⟨n, hn1, hn2⟩ := Near_ev x s
      obtain ⟨v, hv1, hv2⟩ := clip_eq (wrap64 (z + n))
      refine ⟨v, Ev.succ ?_, Ev.succ ?_⟩
      · simp only [impl_Quantise.j0]
        exact Ev.neg (by simp) (Ev.bind hn1 (Ev.b hv2 (Ev.some rfl)))
      · simp only [spec_Quantise.j0]
        exact Ev.neg (by simp) (Ev.bind hn2 (Ev.b hv1 (Ev.some rfl)))
  unfold impl_Quantise.f spec_Quantise.f
  simp only [scale_eq, scale_f, real_eq, real_f, Option.bind_some]
  by_cases h : (decide (1 ≤ s) && decide (s ≤ 1099511627776) && (decide (0 ≤ z) && decide (z ≤ 255))) = true
  · obtain ⟨v, h1, h2⟩ := key (!(decide (-1099511627776 ≤ x) && decide (x ≤ 1099511627776)))
    exact ⟨v, Ev.pos h h1, Ev.pos h h2⟩
  · obtain ⟨v, h1, h2⟩ := key true
    exact ⟨v, Ev.neg h h1, Ev.neg h h2⟩
theorem value_eq (s z q : Int) : ∃ v, spec_Value.f s z q = some v ∧ impl_Value.f s z q = some v := by
  unfold spec_Value.f impl_Value.f impl_isByte.f
  simp only [scale_eq, scale_f, l5In_eq, within_f, Option.bind_some]
  split
  · split
    · exact ⟨_, rfl, rfl⟩
    · exact ⟨_, rfl, rfl⟩
  · exact ⟨_, rfl, rfl⟩
/-! ### the lists of reals -/
def realsB (l : List Int) : Bool := l.all fun x => decide (-1099511627776 ≤ x) && decide (x ≤ 1099511627776)
theorem reals_sl (l : List Int) (hn : l.length ≤ 9223372036854775807) : ∀ (d i : Nat), l.length - i = d → i ≤ l.length → Ev (fun k => spec_l14Reals.l0 k l (i : Int)) (realsB (l.drop i) && (decide (0 < l.length) && decide (l.length ≤ 4096))) := by
  intro d
  induction d with
  | zero =>
    intro i hd hi
    refine Ev.succ ?_
    simp only [spec_l14Reals.l0]
    refine Ev.neg (by omega) ?_
    rw [List.drop_eq_nil_of_le (by omega)]
    refine Ev.ite (fun h => Ev.some ?_) (fun h => Ev.some ?_)
    · rw [show decide (0 < l.length) = true from decide_eq_true (by omega)]
      simp only [realsB, List.all_nil, Bool.true_and]
      exact decide_eq_decide.2 (by omega)
    · rw [show decide (0 < l.length) = false from decide_eq_false (by omega)]
      rfl
  | succ d ih =>
    intro i hd hi
    refine Ev.succ ?_
    simp only [spec_l14Reals.l0]
    have hlt : i < l.length := by omega
    refine Ev.pos (by omega) (Ev.pos (by omega) ?_)
    rw [rd_at hlt, up i hlt hn, real_eq, real_f]
    simp only [Option.bind_some]
    rw [drop_at hlt]
    refine Ev.ite (fun h => ?_) (fun h => Ev.some ?_)
    · have := ih (i + 1) (by omega) (by omega)
      rw [show realsB (l[i] :: l.drop (i + 1)) = realsB (l.drop (i + 1)) by simp only [realsB, List.all_cons, h, Bool.true_and]]
      exact this
    · simp only [realsB, List.all_cons]
      simp only [Bool.not_eq_true] at h
      rw [h]
      rfl
theorem reals_il (l : List Int) (hn : l.length ≤ 9223372036854775807) : ∀ (d i : Nat), l.length - i = d → i ≤ l.length → Ev (fun k => impl_realsOk.l0 k l l (l.length : Int) (i : Int)) (realsB (l.drop i) && (decide (0 < l.length) && decide (l.length ≤ 4096))) := by
  intro d
  induction d with
  | zero =>
    intro i hd hi
    refine Ev.succ ?_
    simp only [impl_realsOk.l0]
    refine Ev.neg (by omega) ?_
    rw [List.drop_eq_nil_of_le (by omega)]
    refine Ev.ite (fun h => Ev.some ?_) (fun h => Ev.some ?_)
    · rw [show decide (0 < l.length) = true from decide_eq_true (by omega)]
      simp only [realsB, List.all_nil, Bool.true_and]
      exact decide_eq_decide.2 (by omega)
    · rw [show decide (0 < l.length) = false from decide_eq_false (by omega)]
      rfl
  | succ d ih =>
    intro i hd hi
    refine Ev.succ ?_
    simp only [impl_realsOk.l0]
    have hlt : i < l.length := by omega
    refine Ev.pos (by omega) (Ev.pos (by omega) (Ev.pos (by omega) ?_))
    rw [rd_at hlt, up i hlt hn, real_f]
    simp only [Option.bind_some]
    rw [drop_at hlt]
    refine Ev.ite (fun h => ?_) (fun h => Ev.some ?_)
    · have := ih (i + 1) (by omega) (by omega)
      rw [show realsB (l[i] :: l.drop (i + 1)) = realsB (l.drop (i + 1)) by simp only [realsB, List.all_cons, h, Bool.true_and]]
      exact this
    · simp only [realsB, List.all_cons]
      simp only [Bool.not_eq_true] at h
      rw [h]
      rfl
/-! ### the worst distance -/
theorem worst_step (m d : Int) (hm : 0 ≤ m) (h1 : -9223372036854775808 ≤ d) (h2 : d ≤ 9223372036854775807) :
    ∃ v, spec_l1Abs.f d = some v ∧ mx (mx m d) (wrap64 (-d)) = (if v > m then v else m) := by
  unfold spec_l1Abs.f
  by_cases h : d < 0
  · refine ⟨_, if_pos h, ?_⟩
    by_cases e : d = -9223372036854775808
    · subst e
      unfold wrap64 mx
      simp
      omega
    · rw [wrap_id (by omega) (by omega)]
      unfold mx
      rw [if_neg (show ¬ m < d by omega)]
  · refine ⟨_, if_neg h, ?_⟩
    rw [wrap_id (by omega) (by omega)]
    unfold mx
    by_cases e : m < d
    · rw [if_pos e, if_neg (by omega)]
    · rw [if_neg e, if_neg (by omega)]
theorem worst_l (s z : Int) (l : List Int) (hn : l.length ≤ 9223372036854775807) (hs : impl_ScaleOk.f s z = some true) (hr : Ev (fun k => spec_l14Reals.f k l) true) :
    ∀ (d i : Nat) (m : Int), l.length - i = d → i ≤ l.length → 0 ≤ m → ∃ v, Ev (fun k => spec_Worst.l0 k l m (i : Int) s z) v ∧ Ev (fun k => impl_Worst.l0 k m l (l.length : Int) (i : Int) s z) v := by
  intro d
  induction d with
  | zero =>
    intro i m hd hi hm
    refine ⟨m, Ev.succ ?_, Ev.succ ?_⟩
    · simp only [spec_Worst.l0]
      refine Ev.neg (by omega) (Ev.succ ?_)
      simp only [spec_Worst.j1]
      exact Ev.neg (by simp) (Ev.some rfl)
    · simp only [impl_Worst.l0]
      exact Ev.neg (by omega) (Ev.some rfl)
  | succ d ih =>
    intro i m hd hi hm
    have hlt : i < l.length := by omega
    obtain ⟨q, hq1, hq2⟩ := quant_ev s z l[i]
    obtain ⟨y, hy1, hy2⟩ := value_eq s z q
    obtain ⟨a, ha, hb⟩ := worst_step m (wrap64 (l[i] - y)) hm (wrap_lo _) (wrap_hi _)
    obtain ⟨v, hv1, hv2⟩ := ih (i + 1) (if a > m then a else m) (by omega) (by omega) (by split <;> omega)
    refine ⟨v, Ev.succ ?_, Ev.succ ?_⟩
    · simp only [spec_Worst.l0]
      refine Ev.pos (by omega) ?_
      rw [scale_eq, hs]
      simp only [Option.bind_some]
      refine Ev.pos trivial (Ev.bind hr (Ev.succ ?_))
      simp only [spec_Worst.j1]
      refine Ev.pos trivial (Ev.pos (by omega) (Ev.pos (by omega) ?_))
      rw [rd_at hlt, up i hlt hn]
      refine Ev.bind hq2 (Ev.b hy1 (Ev.b ha ?_))
      refine Ev.ite (fun h => ?_) (fun h => ?_)
      · rw [if_pos h] at hv1
        exact hv1
      · rw [if_neg h] at hv1
        exact hv1
    · simp only [impl_Worst.l0]
      refine Ev.pos (by omega) (Ev.pos (by omega) (Ev.pos (by omega) ?_))
      rw [rd_at hlt, up i hlt hn]
      refine Ev.bind hq1 (Ev.b hy2 ?_)
      rw [hb]
      exact hv2
theorem worst_no (s z : Int) (l : List Int) (h : impl_ScaleOk.f s z = some false ∨ (impl_ScaleOk.f s z = some true ∧ Ev (fun k => spec_l14Reals.f k l) false)) : Ev (fun k => spec_Worst.f k s z l) 0 := by
  unfold spec_Worst.f
  refine Ev.succ ?_
  simp only [spec_Worst.l0]
  have e : Ev (fun k => spec_Worst.j1 k l 0 0 false s z) 0 := Ev.succ (by simp only [spec_Worst.j1]; exact Ev.neg (by simp) (Ev.some rfl))
  refine Ev.ite (fun _ => ?_) (fun _ => e)
  rw [scale_eq]
  rcases h with h | ⟨h, hr⟩
  · rw [h]
    simp only [Option.bind_some]
    exact Ev.neg (by simp) e
  · rw [h]
    simp only [Option.bind_some]
    exact Ev.pos trivial (Ev.bind hr e)
theorem worst_ev (s z : Int) (l : List Int) (hn : l.length ≤ 9223372036854775807) : ∃ v, Ev (fun k => spec_Worst.f k s z l) v ∧ Ev (fun k => impl_Worst.f k s z l) v := by
  have r1 : Ev (fun k => spec_l14Reals.f k l) (realsB l && (decide (0 < l.length) && decide (l.length ≤ 4096))) := reals_sl l hn l.length 0 (by omega) (by omega)
  have r2 : Ev (fun k => impl_realsOk.f k l) (realsB l && (decide (0 < l.length) && decide (l.length ≤ 4096))) := reals_il l hn l.length 0 (by omega) (by omega)
  have j : Ev (fun k => impl_Worst.j0 k l true s z) 0 := Ev.succ (by simp only [impl_Worst.j0]; exact Ev.pos trivial (Ev.some rfl))
  have hs : ∃ b, impl_ScaleOk.f s z = some b := ⟨_, scale_f s z⟩
  obtain ⟨b, hs⟩ := hs
  cases b with
  | false =>
    refine ⟨0, worst_no s z l (.inl hs), ?_⟩
    unfold impl_Worst.f
    rw [hs]
    simp only [Option.bind_some]
    exact Ev.neg (by simp) j
  | true =>
    cases hB : (realsB l && (decide (0 < l.length) && decide (l.length ≤ 4096))) with
    | false =>
      rw [hB] at r1 r2
      refine ⟨0, worst_no s z l (.inr ⟨hs, r1⟩), ?_⟩
      unfold impl_Worst.f
      rw [hs]
      simp only [Option.bind_some]
      exact Ev.pos trivial (Ev.bind r2 j)
    | true =>
      rw [hB] at r1 r2
      obtain ⟨v, h1, h2⟩ := worst_l s z l hn hs r1 l.length 0 0 (by omega) (by omega) (by omega)
      refine ⟨v, h1, ?_⟩
      unfold impl_Worst.f
      rw [hs]
      simp only [Option.bind_some]
      refine Ev.pos trivial (Ev.bind r2 (Ev.succ ?_))
      simp only [impl_Worst.j0]
      exact Ev.neg (by simp) h2
theorem FnExactWorst (s z : Int) (l : List Int) : ∃ k, laws_FnExactWorst.f k s z l = some true := by
  apply Ev.rounds
  unfold laws_FnExactWorst.f
  refine Ev.ite (fun _ => Ev.some rfl) (fun h => ?_)
  have hl : l.length ≤ 1048576 := by omega
  have t := toIntS_ev l (by omega)
  obtain ⟨v, hv1, hv2⟩ := worst_ev s z l (by omega)
  simp only [laws_toScale.f, Option.bind_some]
  refine Ev.bind t (Ev.bind hv1 (Ev.bind t (Ev.bind hv2 (Ev.pos rfl (Ev.bind t (Ev.bind (eqIntS_ev l (by omega)) ?_))))))
  exact Ev.pos rfl (Ev.some rfl)
end Go.Proofs.Ytajknaobbjlljaa.PureFnExactWorst
