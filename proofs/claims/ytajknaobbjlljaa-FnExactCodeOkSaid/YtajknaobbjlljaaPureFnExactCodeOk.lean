/- The pure statement of FnExactCodeOk: program and reference agree on which code is right. -/
import Derived.Test.YtajknaobbjlljaaPFnExactCodeOkx6
import Derived.Test.YtajknaobbjlljaaAidC
namespace Go.Proofs.Ytajknaobbjlljaa.PureFnExactCodeOk
open Go.RowKit Go.Proofs.Ytajknaobbjlljaa.PFnExactCodeOk Go.Proofs.YtajknaobbjlljaaW.PrintWords Go.Proofs.YtajknaobbjlljaaW.PrintLast Go.Proofs.YtajknaobbjlljaaW.PrintMore Go.Proofs.Ytajknaobbjlljaa.AidC
theorem at83 {l : List S83} {i : Nat} (h : i < l.length) : rd_T83 l (i : Int) = l[i] := getD_at h
theorem at85 {l : List S85} {i : Nat} (h : i < l.length) : rd_T85 l (i : Int) = l[i] := getD_at h
/-! ### lists taken over and held against each other -/
def conv (x : S85) : S83 := ⟨x.f0, x.f1, x.f2, x.f3⟩
theorem to_l (l : List S85) (hn : l.length ≤ 9223372036854775807) : ∀ (d i : Nat), l.length - i = d → i ≤ l.length → Ev (fun k => laws_toInstrS.l0 k l ((l.map conv).take i ++ List.replicate ((l.map conv).length - i) z83) (i : Int)) (l.map conv) := by
  intro d
  induction d with
  | zero =>
    intro i hd hi
    refine Ev.succ ?_
    simp only [laws_toInstrS.l0]
    refine Ev.neg (by omega) (Ev.some ?_)
    rw [List.length_map, hd, List.take_of_length_le (by simp; omega)]
    simp
  | succ d ih =>
    intro i hd hi
    refine Ev.succ ?_
    simp only [laws_toInstrS.l0]
    have hlt : i < l.length := by omega
    have hlt' : i < (l.map conv).length := by simpa using hlt
    refine Ev.pos (by omega) (Ev.pos (by omega) ?_)
    simp only [laws_toInstr.f, Option.bind_some]
    refine Ev.pos (by simp; omega) ?_
    rw [at85 hlt, up i hlt hn, Int.toNat_natCast]
    have := set_fill (z := z83) hlt'
    rw [show (⟨l[i].f0, l[i].f1, l[i].f2, l[i].f3⟩ : S83) = (l.map conv)[i] by rw [List.getElem_map]; rfl, this]
    exact ih (i + 1) (by omega) (by omega)
theorem to_ev (l : List S85) (h : l.length ≤ 8796093022208) : Ev (fun k => laws_toInstrS.f k l) (l.map conv) := by
  unfold laws_toInstrS.f
  refine Ev.pos (by omega) (Ev.pos (by omega) ?_)
  have := to_l l (by omega) l.length 0 (by omega) (by omega)
  simpa using this
theorem eq_l (l : List S83) (hn : l.length ≤ 9223372036854775807) : ∀ (d i : Nat), l.length - i = d → i ≤ l.length → Ev (fun k => laws_eqInstrS.l0 k l l (i : Int)) true := by
  intro d
  induction d with
  | zero =>
    intro i hd hi
    refine Ev.succ ?_
    simp only [laws_eqInstrS.l0]
    exact Ev.neg (by omega) (Ev.some rfl)
  | succ d ih =>
    intro i hd hi
    refine Ev.succ ?_
    simp only [laws_eqInstrS.l0]
    have hlt : i < l.length := by omega
    refine Ev.pos (by omega) (Ev.pos (by omega) (Ev.pos (by omega) (Ev.b (a := true) (by simp [laws_eqInstr.f]) (Ev.pos rfl ?_))))
    rw [up i hlt hn]
    exact ih (i + 1) (by omega) (by omega)
theorem eq_ev (l : List S83) (h : l.length ≤ 8796093022208) : Ev (fun k => laws_eqInstrS.f k l l) true := by
  unfold laws_eqInstrS.f
  exact Ev.pos rfl (eq_l l (by omega) l.length 0 (by omega) (by omega))
/-! ### one instruction -/
theorem within_f (a b c : Int) : impl_within.f a b c = some (decide (b ≤ a) && decide (a ≤ c)) := by
  unfold impl_within.f
  by_cases h : b ≤ a
  · rw [if_pos (show a ≥ b from h)]
    simp [h]
  · rw [if_neg (show ¬ a ≥ b from h)]
    simp [h]
theorem l5In_f (a b c : Int) : spec_l5In.f a b c = some (decide (b ≤ a) && decide (a ≤ c)) := within_f a b c
theorem num_f (a : Int) : spec_l13Num.f a = some (decide (-1000000 ≤ a) && decide (a ≤ 1000000)) := by
  unfold spec_l13Num.f
  simp only [l5In_f, Option.bind_some]
theorem reg_f (a : Int) : spec_l13Reg.f a = some (decide (0 ≤ a) && decide (a ≤ 63)) := by
  unfold spec_l13Reg.f
  simp only [l5In_f, Option.bind_some]
theorem lt_form (a n : Int) (m : Int) (h : n = m + 1) : (if a ≥ 0 then some (decide (a < n)) else some false) = some (decide (0 ≤ a) && decide (a ≤ m)) := by
  subst h
  by_cases h : 0 ≤ a
  · rw [if_pos (show a ≥ 0 from h)]
    simp [h, Int.lt_add_one_iff]
  · rw [if_neg (show ¬ a ≥ 0 from h)]
    simp [h]
theorem address_f (a : Int) : impl_address.f a = some (decide (0 ≤ a) && decide (a ≤ 31)) := lt_form a 32 31 rfl
theorem register_f (a : Int) : impl_register.f a = some (decide (0 ≤ a) && decide (a ≤ 63)) := lt_form a 64 63 rfl
theorem isNum_f (a : Int) : impl_isNum.f a = some (decide (0 ≤ a) && decide (a ≤ 2147483646)) := lt_form a 2147483647 2147483646 rfl
theorem arena_f (a : Int) : impl_inArena.f a = some (decide (-1000000 ≤ a) && decide (a ≤ 1000000)) := within_f a (-1000000) 1000000
theorem j3_eq (k : Nat) (x : Bool) (a b c d : Int) : spec_l13Instr.j3 k x a b c d = impl_instrOk.j3 k x a b c d := by
  cases k with
  | zero => rfl
  | succ k => simp only [spec_l13Instr.j3, impl_instrOk.j3, reg_f, register_f]
theorem j2_eq (k : Nat) (o : Int) (x : Bool) (a b c d : Int) : spec_l13Instr.j2 k o x a b c d = impl_instrOk.j2 k o x a b c d := by
  cases k with
  | zero => rfl
  | succ k => simp only [spec_l13Instr.j2, impl_instrOk.j2, reg_f, register_f, j3_eq]
theorem j1_eq (k : Nat) (o : Int) (x : Bool) (a b c d : Int) : spec_l13Instr.j1 k o x a b c d = impl_instrOk.j1 k o x a b c d := by
  cases k with
  | zero => rfl
  | succ k => simp only [spec_l13Instr.j1, impl_instrOk.j1, reg_f, register_f, l5In_f, address_f, num_f, arena_f, isNum_f, j2_eq]
theorem j0_eq (k : Nat) (o : Int) (x : Bool) (a b c d : Int) : spec_l13Instr.j0 k o x a b c d = impl_instrOk.j0 k o x a b c d := by
  cases k with
  | zero => rfl
  | succ k => simp only [spec_l13Instr.j0, impl_instrOk.j0, l5In_f, within_f, address_f, num_f, arena_f, j1_eq]
theorem instr_eq (k : Nat) (a b c d : Int) : spec_l13Instr.f k a b c d = impl_instrOk.f k a b c d := by
  unfold spec_l13Instr.f impl_instrOk.f
  simp only [l5In_f, within_f, j0_eq]
theorem j3_tot (x : Bool) (a b c d : Int) : Tot (fun k => impl_instrOk.j3 k x a b c d) := by
  refine Tot.succ ?_
  simp only [impl_instrOk.j3, register_f, Option.bind_some]
  repeat' first | exact Tot.some _ | refine Tot.ite (fun _ => ?_) (fun _ => ?_)
theorem j2_tot (o : Int) (x : Bool) (a b c d : Int) : Tot (fun k => impl_instrOk.j2 k o x a b c d) := by
  refine Tot.succ ?_
  simp only [impl_instrOk.j2, register_f, Option.bind_some]
  repeat' first | exact Tot.some _ | exact j3_tot _ _ _ _ _ | refine Tot.ite (fun _ => ?_) (fun _ => ?_)
theorem j1_tot (o : Int) (x : Bool) (a b c d : Int) : Tot (fun k => impl_instrOk.j1 k o x a b c d) := by
  refine Tot.succ ?_
  simp only [impl_instrOk.j1, register_f, address_f, arena_f, isNum_f, Option.bind_some]
  repeat' first | exact Tot.some _ | exact j2_tot _ _ _ _ _ _ | refine Tot.ite (fun _ => ?_) (fun _ => ?_)
theorem j0_tot (o : Int) (x : Bool) (a b c d : Int) : Tot (fun k => impl_instrOk.j0 k o x a b c d) := by
  refine Tot.succ ?_
  simp only [impl_instrOk.j0, address_f, arena_f, within_f, Option.bind_some]
  repeat' first | exact Tot.some _ | exact j1_tot _ _ _ _ _ _ | refine Tot.ite (fun _ => ?_) (fun _ => ?_)
theorem instr_tot (a b c d : Int) : Tot (fun k => impl_instrOk.f k a b c d) := by
  unfold impl_instrOk.f
  simp only [within_f, Option.bind_some]
  repeat' first | exact Tot.some _ | exact j0_tot _ _ _ _ _ _ | refine Tot.ite (fun _ => ?_) (fun _ => ?_)
theorem instr_ok : ∃ ok : S83 → Bool, ∀ x, Ev (fun k => impl_instrOk.f k x.f0 x.f1 x.f2 x.f3) (ok x) ∧ Ev (fun k => spec_l13Instr.f k x.f0 x.f1 x.f2 x.f3) (ok x) := by
  have h : ∀ x : S83, ∃ b, Ev (fun k => impl_instrOk.f k x.f0 x.f1 x.f2 x.f3) b ∧ Ev (fun k => spec_l13Instr.f k x.f0 x.f1 x.f2 x.f3) b := fun x => by
    obtain ⟨b, e⟩ := instr_tot x.f0 x.f1 x.f2 x.f3
    exact ⟨b, e, Ev.same (fun k => instr_eq k _ _ _ _) e⟩
  exact ⟨fun x => Classical.choose (h x), fun x => Classical.choose_spec (h x)⟩
/-! ### repetitions that go together -/
def step (o : Int) (x : S83) : Int := if x.f0 = 1 then o + 1 else if x.f0 = 2 then o - 1 else o
def bal (o : Int) : List S83 → Bool
  | [] => o == 0
  | x :: xs => if step o x < 0 then false else if step o x > 16 then false else bal (step o x) xs
theorem spec_l (ok : S83 → Bool) (hok : ∀ x, Ev (fun k => impl_instrOk.f k x.f0 x.f1 x.f2 x.f3) (ok x) ∧ Ev (fun k => spec_l13Instr.f k x.f0 x.f1 x.f2 x.f3) (ok x)) (l : List S83) (hn : l.length ≤ 9223372036854775807) :
    ∀ (d i : Nat) (o : Int), l.length - i = d → i ≤ l.length → 0 ≤ o → o ≤ 16 → Ev (fun k => spec_CodeOk.l0 k l o (i : Int)) ((l.drop i).all ok && bal o (l.drop i)) := by
  intro d
  induction d with
  | zero =>
    intro i o hd hi h0 h1
    refine Ev.succ ?_
    simp only [spec_CodeOk.l0]
    refine Ev.neg (by omega) (Ev.some ?_)
    rw [List.drop_eq_nil_of_le (by omega)]
    simp [bal]
  | succ d ih =>
    intro i o hd hi h0 h1
    refine Ev.succ ?_
    simp only [spec_CodeOk.l0]
    have hlt : i < l.length := by omega
    refine Ev.pos (by omega) (Ev.pos (by omega) ?_)
    rw [at83 hlt, up i hlt hn]
    refine Ev.bind (hok l[i]).2 ?_
    rw [drop_at hlt]
    cases hb : ok l[i] with
    | false => exact Ev.neg (by simp) (Ev.some (by simp only [List.all_cons, hb, Bool.false_and]))
    | true =>
      refine Ev.pos rfl ?_
      have hr : ((l[i] :: l.drop (i + 1)).all ok && bal o (l[i] :: l.drop (i + 1))) = if step o l[i] < 0 then false else if step o l[i] > 16 then false else ((l.drop (i + 1)).all ok && bal (step o l[i]) (l.drop (i + 1))) := by
        simp only [List.all_cons, hb, Bool.true_and, bal]
        split
        · simp
        · split
          · simp
          · rfl
      rw [hr]
      have key : ∀ t, t = step o l[i] → Ev (fun k => if t < 0 then some false else (if t > 16 then some false else spec_CodeOk.l0 k l t ((i + 1 : Nat) : Int))) (if step o l[i] < 0 then false else if step o l[i] > 16 then false else ((l.drop (i + 1)).all ok && bal (step o l[i]) (l.drop (i + 1)))) := by
        intro t ht
        rw [← ht]
        refine Ev.ite (fun h => ?_) (fun h => ?_)
        · rw [if_pos h]
          exact Ev.some rfl
        · rw [if_neg h]
          refine Ev.ite (fun h' => ?_) (fun h' => ?_)
          · rw [if_pos h']
            exact Ev.some rfl
          · rw [if_neg h']
            exact ih (i + 1) t (by omega) (by omega) (by omega) (by omega)
      refine Ev.ite (fun h => key _ ?_) (fun h => Ev.ite (fun h' => key _ ?_) (fun h' => key _ ?_))
      · rw [wrap_id (by omega) (by omega)]
        simp [step, h]
      · rw [wrap_id (by omega) (by omega)]
        simp [step, h']
      · simp [step, h, h']
theorem pairs_l (l : List S83) (hn : l.length ≤ 60000) :
    ∀ (d i : Nat) (out st : List Int), l.length - i = d → i ≤ l.length → out.length = l.length → st.length ≤ 16 → (∀ x ∈ st, 0 ≤ x ∧ x < l.length) →
      ∃ out', Ev (fun k => impl_repPairs.l0 k out st l (l.length : Int) (i : Int)) (out', bal (st.length : Int) (l.drop i)) := by
  intro d
  induction d with
  | zero =>
    intro i out st hd hi ho hs hx
    refine ⟨out, Ev.succ ?_⟩
    simp only [impl_repPairs.l0]
    refine Ev.neg (by omega) (Ev.some ?_)
    rw [List.drop_eq_nil_of_le (by omega)]
    rfl
  | succ d ih =>
    intro i out st hd hi ho hs hx
    have hlt : i < l.length := by omega
    rw [drop_at hlt]
    by_cases h1 : l[i].f0 = 1
    · have hst : step (st.length : Int) l[i] = (st.length : Int) + 1 := by simp [step, h1]
      by_cases h16 : st.length = 16
      · refine ⟨[], Ev.succ ?_⟩
        simp only [impl_repPairs.l0]
        refine Ev.pos (by omega) (Ev.pos (by omega) (Ev.pos (by omega) ?_))
        rw [at83 hlt]
        refine Ev.pos h1 (Ev.pos (by omega) (Ev.b rfl (Ev.pos (by simp; omega) (Ev.some ?_))))
        simp only [bal]
        rw [hst, if_neg (by omega), if_pos (by omega)]
      · obtain ⟨out', e⟩ := ih (i + 1) out (st ++ [(i : Int)]) (by omega) (by omega) ho (by simp; omega) (fun x hm => by
          rcases List.mem_append.1 hm with hm | hm
          · exact hx x hm
          · obtain rfl := List.mem_singleton.1 hm
            omega)
        refine ⟨out', Ev.succ ?_⟩
        simp only [impl_repPairs.l0]
        refine Ev.pos (by omega) (Ev.pos (by omega) (Ev.pos (by omega) ?_))
        rw [at83 hlt, up i hlt (by omega)]
        refine Ev.pos h1 (Ev.pos (by omega) (Ev.b rfl (Ev.neg (by simp; omega) ?_)))
        simp only [bal]
        rw [hst, if_neg (by omega), if_neg (by omega)]
        simpa using e
    · by_cases h2 : l[i].f0 = 2
      · have hst : step (st.length : Int) l[i] = (st.length : Int) - 1 := by simp [step, h2]
        by_cases h0 : st.length = 0
        · refine ⟨[], Ev.succ ?_⟩
          simp only [impl_repPairs.l0]
          refine Ev.pos (by omega) (Ev.pos (by omega) (Ev.pos (by omega) ?_))
          rw [at83 hlt]
          refine Ev.neg h1 (Ev.pos h2 (Ev.pos (by omega) (Ev.some ?_)))
          simp only [bal]
          rw [hst, if_pos (by omega)]
        · have hw : wrap64 ((st.length : Int) - 1) = ((st.length - 1 : Nat) : Int) := by rw [wrap_id] <;> omega
          have hl' : st.length - 1 < st.length := by omega
          have hy := hx _ (List.getElem_mem hl')
          obtain ⟨out', e⟩ := ih (i + 1) ((out.set (st[st.length - 1] : Int).toNat (i : Int)).set i st[st.length - 1]) (st.take (st.length - 1)) (by omega) (by omega) (by simp [ho]) (by simp; omega) (fun x hm => hx x (List.mem_of_mem_take hm))
          refine ⟨out', Ev.succ ?_⟩
          simp only [impl_repPairs.l0]
          refine Ev.pos (by omega) (Ev.pos (by omega) (Ev.pos (by omega) ?_))
          rw [at83 hlt, up i hlt (by omega), hw, rd_at hl', Int.toNat_natCast, Int.toNat_natCast]
          refine Ev.neg h1 (Ev.pos h2 (Ev.neg (by omega) (Ev.pos (by omega) (Ev.pos (by omega) (Ev.pos (by omega) (Ev.pos hy.1 (Ev.pos (by omega) (Ev.pos (by omega) ?_))))))))
          simp only [bal]
          rw [hst, if_neg (by omega), if_neg (by omega)]
          have hln : ((st.take (st.length - 1)).length : Int) = (st.length : Int) - 1 := by
            rw [List.length_take]
            omega
          rw [hln] at e
          exact e
      · have hst : step (st.length : Int) l[i] = (st.length : Int) := by simp [step, h1, h2]
        obtain ⟨out', e⟩ := ih (i + 1) out st (by omega) (by omega) ho hs hx
        refine ⟨out', Ev.succ ?_⟩
        simp only [impl_repPairs.l0]
        refine Ev.pos (by omega) (Ev.pos (by omega) (Ev.pos (by omega) ?_))
        rw [at83 hlt, up i hlt (by omega)]
        refine Ev.neg h1 (Ev.neg h2 ?_)
        simp only [bal]
        rw [hst, if_neg (by omega), if_neg (by omega)]
        exact e
theorem pairs_ev (l : List S83) (hn : l.length ≤ 60000) : ∃ out, Ev (fun k => impl_repPairs.f k l) (out, bal 0 l) := by
  obtain ⟨out, e⟩ := pairs_l l hn l.length 0 (List.replicate l.length 0) [] (by omega) (by omega) (by simp) (by simp) (by simp)
  refine ⟨out, ?_⟩
  unfold impl_repPairs.f
  exact Ev.pos (by omega) (Ev.pos (by omega) e)
theorem impl_l (ok : S83 → Bool) (hok : ∀ x, Ev (fun k => impl_instrOk.f k x.f0 x.f1 x.f2 x.f3) (ok x) ∧ Ev (fun k => spec_l13Instr.f k x.f0 x.f1 x.f2 x.f3) (ok x)) (l : List S83) (hn : l.length ≤ 60000) :
    ∀ (d i : Nat), l.length - i = d → i ≤ l.length → Ev (fun k => impl_CodeOk.l0 k l l (l.length : Int) (i : Int)) ((l.drop i).all ok && bal 0 l) := by
  intro d
  induction d with
  | zero =>
    intro i hd hi
    obtain ⟨out, e⟩ := pairs_ev l hn
    refine Ev.succ ?_
    simp only [impl_CodeOk.l0]
    refine Ev.neg (by omega) (Ev.bind e (Ev.some ?_))
    rw [List.drop_eq_nil_of_le (by omega)]
    simp
  | succ d ih =>
    intro i hd hi
    refine Ev.succ ?_
    simp only [impl_CodeOk.l0]
    have hlt : i < l.length := by omega
    refine Ev.pos (by omega) (Ev.pos (by omega) (Ev.pos (by omega) ?_))
    rw [at83 hlt, up i hlt (by omega)]
    refine Ev.bind (hok l[i]).1 ?_
    rw [drop_at hlt]
    cases hb : ok l[i] with
    | false => exact Ev.neg (by simp) (Ev.some (by simp only [List.all_cons, hb, Bool.false_and]))
    | true =>
      refine Ev.pos rfl ?_
      have := ih (i + 1) (by omega) (by omega)
      simp only [List.all_cons, hb, Bool.true_and]
      exact this
theorem FnExactCodeOk (l : List S85) {good : S85 → Prop} (hg : l.length ≤ maxLen ∧ ∀ y ∈ l, good y) : ∃ k, laws_FnExactCodeOk.f k l = some true := by
  have hm : l.length ≤ 9223372036854775807 := hg.1
  apply Ev.rounds
  unfold laws_FnExactCodeOk.f laws_szInstrS.f
  rw [wrap_id (by omega) (by omega)]
  by_cases h : (1048576 : Int) - (l.length : Int) < 0
  · rw [if_pos h]
    exact Ev.b rfl (Ev.pos (by omega) (Ev.some rfl))
  · rw [if_neg h]
    have t := to_ev l (by omega)
    have hl : (l.map conv).length = l.length := List.length_map _
    refine Ev.b rfl (Ev.neg h (Ev.bind t ?_))
    have key : ∃ b, Ev (fun k => spec_CodeOk.f k (l.map conv)) b ∧ Ev (fun k => impl_CodeOk.f k (l.map conv)) b := by
      unfold spec_CodeOk.f impl_CodeOk.f
      by_cases hc : ((l.map conv).length : Int) > 60000
      · exact ⟨false, Ev.pos hc (Ev.some rfl), Ev.pos hc (Ev.some rfl)⟩
      · obtain ⟨ok, hok⟩ := instr_ok
        exact ⟨_, Ev.neg hc (spec_l ok hok (l.map conv) (by omega) (l.map conv).length 0 0 (by omega) (by omega) (by omega) (by omega)), Ev.neg hc (impl_l ok hok (l.map conv) (by omega) (l.map conv).length 0 (by omega) (by omega))⟩
    obtain ⟨b, e1, e2⟩ := key
    exact Ev.bind e1 (Ev.bind t (Ev.bind e2 (Ev.neg (by simp) (Ev.bind t (Ev.bind (eq_ev _ (by omega)) (Ev.pos rfl (Ev.some rfl)))))))
end Go.Proofs.Ytajknaobbjlljaa.PureFnExactCodeOk
