/- The reference's Fair and the program's Fair say the same; out of the printed functions. -/
import Derived.Test.YtpoblnigmfbnfaaPFnExactFairx6
import Derived.Test.YtpoblnigmfbnfaaBase

namespace Go.Proofs.Ytpoblnigmfbnfaa.PureFnExactFair
set_option linter.unusedVariables false
set_option linter.unusedSimpArgs false
open Go.RowKit Go.Proofs.Ytpoblnigmfbnfaa.PFnExactFair Go.Proofs.YtpoblnigmfbnfaaW.PrintWords Go.Proofs.YtpoblnigmfbnfaaW.PrintLast Go.Proofs.YtpoblnigmfbnfaaW.PrintMore Go.Proofs.Ytpoblnigmfbnfaa.Base 
/-! ### lists of whole numbers taken over and held against each other -/
theorem toIntS_l (l : List Int) (hn : l.length ≤ 9223372036854775807) : ∀ (d i : Nat), l.length - i = d → i ≤ l.length → Ev (fun k => laws_toIntS.l0 k l (l.take i ++ List.replicate (l.length - i) 0) (i : Int)) l := by
  intro d
  induction d with
  | zero =>
    intro i hd hi
    refine Ev.succ ?_
    simp only [laws_toIntS.l0]
    refine Ev.neg (by omega) (Ev.some ?_)
    rw [hd, List.take_of_length_le (by omega)]
    simp
  | succ d ih =>
    intro i hd hi
    refine Ev.succ ?_
    simp only [laws_toIntS.l0]
    have hlt : i < l.length := by omega
    refine Ev.pos (by omega) (Ev.pos (by omega) (Ev.pos (by simp; omega) ?_))
    rw [rd_at hlt, up i hlt hn, Int.toNat_natCast, set_copy hlt]
    exact ih (i + 1) (by omega) (by omega)
theorem toIntS_ev (l : List Int) (h : l.length ≤ 35184372088832) : Ev (fun k => laws_toIntS.f k l) l := by
  unfold laws_toIntS.f
  refine Ev.pos (by omega) (Ev.pos (by omega) ?_)
  have := toIntS_l l (by omega) l.length 0 (by omega) (by omega)
  simpa using this
theorem eqIntS_l (l : List Int) (hn : l.length ≤ 9223372036854775807) : ∀ (d i : Nat), l.length - i = d → i ≤ l.length → Ev (fun k => laws_eqIntS.l0 k l l (i : Int)) true := by
  intro d
  induction d with
  | zero =>
    intro i hd hi
    refine Ev.succ ?_
    simp only [laws_eqIntS.l0]
    exact Ev.neg (by omega) (Ev.some rfl)
  | succ d ih =>
    intro i hd hi
    refine Ev.succ ?_
    simp only [laws_eqIntS.l0]
    have hlt : i < l.length := by omega
    refine Ev.pos (by omega) (Ev.pos (by omega) (Ev.pos (by omega) (Ev.pos (by trivial) ?_)))
    rw [up i hlt hn]
    exact ih (i + 1) (by omega) (by omega)
theorem eqIntS_ev (l : List Int) (h : l.length ≤ 9223372036854775807) : Ev (fun k => laws_eqIntS.f k l l) true := by
  unfold laws_eqIntS.f
  exact Ev.pos rfl (eqIntS_l l (by omega) l.length 0 (by omega) (by omega))
/-! ### sizes -/
theorem szIntS_f (l : List Int) (n : Int) (hl : l.length ≤ 9223372036854775807) (h0 : 0 ≤ n) (h1 : n ≤ 1048576) : laws_szIntS.f l n = some (if n - (l.length : Int) < 0 then -1 else n - (l.length : Int)) := by
  unfold laws_szIntS.f
  rw [wrap_id (by omega) (by omega)]
  split <;> rfl
theorem szAsk_f (x : S66) (n : Int) (hl : x.f2.length ≤ 9223372036854775807) (h0 : 0 ≤ n) (h1 : n ≤ 1048576) : laws_szAsk.f x.f0 x.f1 x.f2 x.f3 x.f4 n = some (if n - (x.f2.length : Int) < 0 then -1 else n - (x.f2.length : Int)) := by
  unfold laws_szAsk.f
  rw [szIntS_f _ _ hl h0 h1, Option.bind_some]
  by_cases h : n - (x.f2.length : Int) < 0
  · rw [if_pos h, if_pos (by omega)]
  · rw [if_neg h, if_neg h]
theorem szReply_f (x : S69) (n : Int) (hl : x.f2.length ≤ 9223372036854775807) (h0 : 0 ≤ n) (h1 : n ≤ 1048576) : laws_szReply.f x.f0 x.f1 x.f2 x.f3 n = some (if n - (x.f2.length : Int) < 0 then -1 else n - (x.f2.length : Int)) := by
  unfold laws_szReply.f
  rw [szIntS_f _ _ hl h0 h1, Option.bind_some]
  by_cases h : n - (x.f2.length : Int) < 0
  · rw [if_pos h, if_pos (by omega)]
  · rw [if_neg h, if_neg h]
theorem szAsk_l (l : List S66) (hn : l.length ≤ 9223372036854775807) (hi : ∀ x ∈ l, x.f2.length ≤ 9223372036854775807) : ∀ (d i : Nat) (n : Int), l.length - i = d → i ≤ l.length → 0 ≤ n → n ≤ 1048576 →
    ∃ q, Ev (fun k => laws_szAskS.l0 k l n (i : Int)) q ∧ (q < 0 ∨ (0 ≤ q ∧ q ≤ n ∧ ∀ x ∈ l.drop i, x.f2.length ≤ 1048576)) := by
  intro d
  induction d with
  | zero =>
    intro i n hd hi' h0 h1
    refine ⟨n, Ev.succ ?_, .inr ⟨h0, by omega, ?_⟩⟩
    · simp only [laws_szAskS.l0]
      exact Ev.neg (by omega) (Ev.some rfl)
    · rw [List.drop_eq_nil_of_le (by omega)]
      simp
  | succ d ih =>
    intro i n hd hi' h0 h1
    have hlt : i < l.length := by omega
    have e := szAsk_f l[i] n (hi _ (List.getElem_mem hlt)) h0 h1
    by_cases hs : n - (l[i].f2.length : Int) < 0
    · refine ⟨-1, Ev.succ ?_, .inl (by omega)⟩
      simp only [laws_szAskS.l0]
      refine Ev.pos (by omega) (Ev.pos (by omega) ?_)
      rw [show rd_T66 l (i : Int) = l[i] from getD_at hlt]
      rw [if_pos hs] at e
      exact Ev.b e (Ev.pos (by omega) (Ev.some rfl))
    · rw [if_neg hs] at e
      obtain ⟨q, eq, hq⟩ := ih (i + 1) (n - (l[i].f2.length : Int)) (by omega) (by omega) (by omega) (by omega)
      refine ⟨q, Ev.succ ?_, ?_⟩
      · simp only [laws_szAskS.l0]
        refine Ev.pos (by omega) (Ev.pos (by omega) ?_)
        rw [show rd_T66 l (i : Int) = l[i] from getD_at hlt, up i hlt hn]
        exact Ev.b e (Ev.neg hs eq)
      · refine hq.imp id (fun hq => ⟨hq.1, by omega, ?_⟩)
        rw [drop_at hlt]
        intro x hx
        rcases List.mem_cons.1 hx with rfl | hx
        · omega
        · exact hq.2.2 x hx
theorem szReply_l (l : List S69) (hn : l.length ≤ 9223372036854775807) (hi : ∀ x ∈ l, x.f2.length ≤ 9223372036854775807) : ∀ (d i : Nat) (n : Int), l.length - i = d → i ≤ l.length → 0 ≤ n → n ≤ 1048576 →
    ∃ q, Ev (fun k => laws_szReplyS.l0 k l n (i : Int)) q ∧ (q < 0 ∨ (0 ≤ q ∧ q ≤ n ∧ ∀ x ∈ l.drop i, x.f2.length ≤ 1048576)) := by
  intro d
  induction d with
  | zero =>
    intro i n hd hi' h0 h1
    refine ⟨n, Ev.succ ?_, .inr ⟨h0, by omega, ?_⟩⟩
    · simp only [laws_szReplyS.l0]
      exact Ev.neg (by omega) (Ev.some rfl)
    · rw [List.drop_eq_nil_of_le (by omega)]
      simp
  | succ d ih =>
    intro i n hd hi' h0 h1
    have hlt : i < l.length := by omega
    have e := szReply_f l[i] n (hi _ (List.getElem_mem hlt)) h0 h1
    by_cases hs : n - (l[i].f2.length : Int) < 0
    · refine ⟨-1, Ev.succ ?_, .inl (by omega)⟩
      simp only [laws_szReplyS.l0]
      refine Ev.pos (by omega) (Ev.pos (by omega) ?_)
      rw [show rd_T69 l (i : Int) = l[i] from getD_at hlt]
      rw [if_pos hs] at e
      exact Ev.b e (Ev.pos (by omega) (Ev.some rfl))
    · rw [if_neg hs] at e
      obtain ⟨q, eq, hq⟩ := ih (i + 1) (n - (l[i].f2.length : Int)) (by omega) (by omega) (by omega) (by omega)
      refine ⟨q, Ev.succ ?_, ?_⟩
      · simp only [laws_szReplyS.l0]
        refine Ev.pos (by omega) (Ev.pos (by omega) ?_)
        rw [show rd_T69 l (i : Int) = l[i] from getD_at hlt, up i hlt hn]
        exact Ev.b e (Ev.neg hs eq)
      · refine hq.imp id (fun hq => ⟨hq.1, by omega, ?_⟩)
        rw [drop_at hlt]
        intro x hx
        rcases List.mem_cons.1 hx with rfl | hx
        · omega
        · exact hq.2.2 x hx
theorem szAskS_ev (l : List S66) (n : Int) (hn : l.length ≤ 9223372036854775807) (hi : ∀ x ∈ l, x.f2.length ≤ 9223372036854775807) (h0 : 0 ≤ n) (h1 : n ≤ 1048576) :
    ∃ q, Ev (fun k => laws_szAskS.f k l n) q ∧ (q < 0 ∨ (0 ≤ q ∧ q ≤ n ∧ l.length ≤ 1048576 ∧ ∀ x ∈ l, x.f2.length ≤ 1048576)) := by
  unfold laws_szAskS.f
  rw [wrap_id (by omega) (by omega)]
  by_cases h : n - (l.length : Int) < 0
  · exact ⟨-1, Ev.pos h (Ev.some rfl), .inl (by omega)⟩
  · obtain ⟨q, e, hq⟩ := szAsk_l l hn hi l.length 0 _ (by omega) (by omega) (Int.not_lt.1 h) (by omega)
    refine ⟨q, Ev.neg h e, hq.imp id (fun hq => ⟨hq.1, by omega, by omega, fun x hx => hq.2.2 x (by simpa using hx)⟩)⟩
theorem szReplyS_ev (l : List S69) (n : Int) (hn : l.length ≤ 9223372036854775807) (hi : ∀ x ∈ l, x.f2.length ≤ 9223372036854775807) (h0 : 0 ≤ n) (h1 : n ≤ 1048576) :
    ∃ q, Ev (fun k => laws_szReplyS.f k l n) q ∧ (q < 0 ∨ (0 ≤ q ∧ q ≤ n ∧ l.length ≤ 1048576 ∧ ∀ x ∈ l, x.f2.length ≤ 1048576)) := by
  unfold laws_szReplyS.f
  rw [wrap_id (by omega) (by omega)]
  by_cases h : n - (l.length : Int) < 0
  · exact ⟨-1, Ev.pos h (Ev.some rfl), .inl (by omega)⟩
  · obtain ⟨q, e, hq⟩ := szReply_l l hn hi l.length 0 _ (by omega) (by omega) (Int.not_lt.1 h) (by omega)
    refine ⟨q, Ev.neg h e, hq.imp id (fun hq => ⟨hq.1, by omega, by omega, fun x hx => hq.2.2 x (by simpa using hx)⟩)⟩
/-! ### taken over, and held against each other -/
def cA (x : S66) : S71 := ⟨x.f0, x.f1, x.f2, x.f3, x.f4⟩
def cR (x : S69) : S70 := ⟨x.f0, x.f1, x.f2, x.f3⟩
theorem toAsk_ev (x : S66) (h : x.f2.length ≤ 1048576) : Ev (fun k => laws_toAsk.f k x.f0 x.f1 x.f2 x.f3 x.f4) (x.f0, x.f1, x.f2, x.f3, x.f4) := by
  unfold laws_toAsk.f
  exact Ev.bind (toIntS_ev _ (by omega)) (Ev.some rfl)
theorem toReply_ev (x : S69) (h : x.f2.length ≤ 1048576) : Ev (fun k => laws_toReply.f k x.f0 x.f1 x.f2 x.f3) (x.f0, x.f1, x.f2, x.f3) := by
  unfold laws_toReply.f
  exact Ev.bind (toIntS_ev _ (by omega)) (Ev.some rfl)
theorem toAskS_l (l : List S66) (hn : l.length ≤ 1048576) (hi : ∀ x ∈ l, x.f2.length ≤ 1048576) : ∀ (d i : Nat), l.length - i = d → i ≤ l.length → Ev (fun k => laws_toAskS.l0 k l ((l.map cA).take i ++ List.replicate ((l.map cA).length - i) z71) (i : Int)) (l.map cA) := by
  have hl : (l.map cA).length = l.length := List.length_map _
  intro d
  induction d with
  | zero =>
    intro i hd hi'
    refine Ev.succ ?_
    simp only [laws_toAskS.l0]
    refine Ev.neg (by omega) (Ev.some ?_)
    rw [show (l.map cA).length - i = 0 by omega, List.take_of_length_le (by omega)]
    simp
  | succ d ih =>
    intro i hd hi'
    have hlt : i < l.length := by omega
    have hlt' : i < (l.map cA).length := by omega
    refine Ev.succ ?_
    simp only [laws_toAskS.l0]
    refine Ev.pos (by omega) (Ev.pos (by omega) ?_)
    rw [show rd_T66 l (i : Int) = l[i] from getD_at hlt]
    refine Ev.bind (toAsk_ev l[i] (hi _ (List.getElem_mem hlt))) (Ev.pos (by simp; omega) ?_)
    have e := set_fill (z := z71) hlt'
    rw [List.getElem_map] at e
    rw [up i hlt (by omega), Int.toNat_natCast]
    refine Ev.same (fun k => by rw [← e]; rfl) (ih (i + 1) (by omega) (by omega))
theorem toReplyS_l (l : List S69) (hn : l.length ≤ 1048576) (hi : ∀ x ∈ l, x.f2.length ≤ 1048576) : ∀ (d i : Nat), l.length - i = d → i ≤ l.length → Ev (fun k => laws_toReplyS.l0 k l ((l.map cR).take i ++ List.replicate ((l.map cR).length - i) z70) (i : Int)) (l.map cR) := by
  have hl : (l.map cR).length = l.length := List.length_map _
  intro d
  induction d with
  | zero =>
    intro i hd hi'
    refine Ev.succ ?_
    simp only [laws_toReplyS.l0]
    refine Ev.neg (by omega) (Ev.some ?_)
    rw [show (l.map cR).length - i = 0 by omega, List.take_of_length_le (by omega)]
    simp
  | succ d ih =>
    intro i hd hi'
    have hlt : i < l.length := by omega
    have hlt' : i < (l.map cR).length := by omega
    refine Ev.succ ?_
    simp only [laws_toReplyS.l0]
    refine Ev.pos (by omega) (Ev.pos (by omega) ?_)
    rw [show rd_T69 l (i : Int) = l[i] from getD_at hlt]
    refine Ev.bind (toReply_ev l[i] (hi _ (List.getElem_mem hlt))) (Ev.pos (by simp; omega) ?_)
    have e := set_fill (z := z70) hlt'
    rw [List.getElem_map] at e
    rw [up i hlt (by omega), Int.toNat_natCast]
    refine Ev.same (fun k => by rw [← e]; rfl) (ih (i + 1) (by omega) (by omega))
theorem toAskS_ev (l : List S66) (hn : l.length ≤ 1048576) (hi : ∀ x ∈ l, x.f2.length ≤ 1048576) : Ev (fun k => laws_toAskS.f k l) (l.map cA) := by
  unfold laws_toAskS.f
  refine Ev.pos (by omega) (Ev.pos (by omega) ?_)
  have := toAskS_l l hn hi l.length 0 (by omega) (by omega)
  simpa using this
theorem toReplyS_ev (l : List S69) (hn : l.length ≤ 1048576) (hi : ∀ x ∈ l, x.f2.length ≤ 1048576) : Ev (fun k => laws_toReplyS.f k l) (l.map cR) := by
  unfold laws_toReplyS.f
  refine Ev.pos (by omega) (Ev.pos (by omega) ?_)
  have := toReplyS_l l hn hi l.length 0 (by omega) (by omega)
  simpa using this
theorem eqAskS_l (l : List S71) (hn : l.length ≤ 1048576) (hi : ∀ x ∈ l, x.f2.length ≤ 1048576) : ∀ (d i : Nat), l.length - i = d → i ≤ l.length → Ev (fun k => laws_eqAskS.l0 k l l (i : Int)) true := by
  intro d
  induction d with
  | zero =>
    intro i hd hi'
    refine Ev.succ ?_
    simp only [laws_eqAskS.l0]
    exact Ev.neg (by omega) (Ev.some rfl)
  | succ d ih =>
    intro i hd hi'
    have hlt : i < l.length := by omega
    refine Ev.succ ?_
    simp only [laws_eqAskS.l0]
    refine Ev.pos (by omega) (Ev.pos (by omega) (Ev.pos (by omega) ?_))
    rw [show rd_T71 l (i : Int) = l[i] from getD_at hlt, up i hlt (by omega)]
    have e : Ev (fun k => laws_eqAsk.f k l[i].f0 l[i].f1 l[i].f2 l[i].f3 l[i].f4 l[i].f0 l[i].f1 l[i].f2 l[i].f3 l[i].f4) true := by
      unfold laws_eqAsk.f
      exact Ev.pos rfl (Ev.pos rfl (Ev.bind (eqIntS_ev _ (by have := hi _ (List.getElem_mem hlt); omega)) (Ev.pos rfl (Ev.pos rfl (Ev.pos rfl (Ev.some rfl))))))
    exact Ev.bind e (Ev.pos rfl (ih (i + 1) (by omega) (by omega)))
theorem eqReplyS_l (l : List S70) (hn : l.length ≤ 1048576) (hi : ∀ x ∈ l, x.f2.length ≤ 1048576) : ∀ (d i : Nat), l.length - i = d → i ≤ l.length → Ev (fun k => laws_eqReplyS.l0 k l l (i : Int)) true := by
  intro d
  induction d with
  | zero =>
    intro i hd hi'
    refine Ev.succ ?_
    simp only [laws_eqReplyS.l0]
    exact Ev.neg (by omega) (Ev.some rfl)
  | succ d ih =>
    intro i hd hi'
    have hlt : i < l.length := by omega
    refine Ev.succ ?_
    simp only [laws_eqReplyS.l0]
    refine Ev.pos (by omega) (Ev.pos (by omega) (Ev.pos (by omega) ?_))
    rw [show rd_T70 l (i : Int) = l[i] from getD_at hlt, up i hlt (by omega)]
    have e : Ev (fun k => laws_eqReply.f k l[i].f0 l[i].f1 l[i].f2 l[i].f3 l[i].f0 l[i].f1 l[i].f2 l[i].f3) true := by
      unfold laws_eqReply.f
      exact Ev.pos rfl (Ev.pos rfl (Ev.bind (eqIntS_ev _ (by have := hi _ (List.getElem_mem hlt); omega)) (Ev.pos rfl (Ev.pos rfl (Ev.some rfl)))))
    exact Ev.bind e (Ev.pos rfl (ih (i + 1) (by omega) (by omega)))
theorem eqAskS_ev (l : List S71) (hn : l.length ≤ 1048576) (hi : ∀ x ∈ l, x.f2.length ≤ 1048576) : Ev (fun k => laws_eqAskS.f k l l) true := by
  unfold laws_eqAskS.f
  exact Ev.pos rfl (eqAskS_l l hn hi l.length 0 (by omega) (by omega))
theorem eqReplyS_ev (l : List S70) (hn : l.length ≤ 1048576) (hi : ∀ x ∈ l, x.f2.length ≤ 1048576) : Ev (fun k => laws_eqReplyS.f k l l) true := by
  unfold laws_eqReplyS.f
  exact Ev.pos rfl (eqReplyS_l l hn hi l.length 0 (by omega) (by omega))
/-! ### fair -/
def bad (L : List S71) (R : List S70) (i j : Int) : Bool :=
  decide ((rd_T71 L i).f0 = (rd_T71 L j).f0) && decide (((rd_T71 L i).f2.length : Int) = ((rd_T71 L j).f2.length : Int)) && decide ((rd_T71 L i).f3 = (rd_T71 L j).f3) && decide ((rd_T71 L i).f1 > (rd_T71 L j).f1) &&
  decide ((rd_T70 R i).f1 ≥ 0) && decide ((rd_T70 R j).f1 ≥ 0) && decide ((rd_T70 R i).f1 > (rd_T70 R j).f1)
def anyBad (L : List S71) (R : List S70) (i : Int) : Nat → Nat → Bool
  | 0, _ => false
  | d + 1, j => bad L R i (j : Int) || anyBad L R i d (j + 1)
def fairS (L : List S71) (R : List S70) (n : Nat) : Nat → Nat → Bool
  | 0, _ => true
  | d + 1, i => decide ((rd_T70 R (i : Int)).f0 = (i : Int)) && (!anyBad L R (i : Int) n 0 && fairS L R n d (i + 1))
def inRow (R : List S70) : Nat → Nat → Bool
  | 0, _ => true
  | d + 1, i => decide ((rd_T70 R (i : Int)).f0 = (i : Int)) && inRow R d (i + 1)
def fairI (L : List S71) (R : List S70) (n : Nat) : Nat → Nat → Bool
  | 0, _ => true
  | d + 1, i => !anyBad L R (i : Int) n 0 && fairI L R n d (i + 1)
theorem fair_same (L : List S71) (R : List S70) (n : Nat) : ∀ (d i : Nat), fairS L R n d i = (inRow R d i && fairI L R n d i)
  | 0, _ => rfl
  | d + 1, i => by
    simp only [fairS, inRow, fairI, fair_same L R n d (i + 1)]
    cases decide ((rd_T70 R (i : Int)).f0 = (i : Int)) <;> cases anyBad L R (i : Int) n 0 <;> cases inRow R d (i + 1) <;> simp
theorem spec_in (L : List S71) (R : List S70) (hn : L.length ≤ 1048576) (hr : R.length = L.length) (i : Nat) (hi : i < L.length) (c : Bool) (hc : Ev (fun k => spec_Fair.l0 k L R (wrap64 ((i : Int) + 1))) c) :
    ∀ (d j : Nat), L.length - j = d → j ≤ L.length → Ev (fun k => spec_Fair.l1 k L R (i : Int) (j : Int)) (!anyBad L R (i : Int) d j && c) := by
  intro d
  induction d with
  | zero =>
    intro j hd hj
    refine Ev.succ ?_
    simp only [spec_Fair.l1]
    refine Ev.neg (by omega) ?_
    simpa only [anyBad, Bool.not_false, Bool.true_and] using hc
  | succ d ih =>
    intro j hd hj
    have hlt : j < L.length := by omega
    have ih := ih (j + 1) (by omega) (by omega)
    have go : ∀ b : Bool, bad L R (i : Int) (j : Int) = b → Ev (fun k => spec_Fair.j2 k L R (i : Int) (j : Int) b) (!anyBad L R (i : Int) (d + 1) j && c) := by
      intro b hb
      refine Ev.succ ?_
      simp only [spec_Fair.j2, anyBad, hb]
      cases b with
      | true => exact Ev.pos rfl (Ev.some rfl)
      | false =>
        refine Ev.neg (by simp) ?_
        rw [up j hlt (by omega)]
        simpa only [Bool.false_or] using ih
    refine Ev.succ ?_
    simp only [spec_Fair.l1]
    refine Ev.pos (by omega) (Ev.pos (by omega) (Ev.pos (by omega) (Ev.pos (by omega) ?_)))
    refine Ev.ite (fun h1 => ?_) (fun h1 => go _ (by simp [bad, h1]))
    refine Ev.ite (fun h2 => ?_) (fun h2 => go _ (by unfold bad; rw [decide_eq_false h2]; simp))
    refine Ev.ite (fun h3 => ?_) (fun h3 => go _ (by unfold bad; rw [decide_eq_false h3]; simp))
    refine Ev.ite (fun h4 => ?_) (fun h4 => go _ (by unfold bad; rw [decide_eq_false h4]; simp))
    refine Ev.pos (by omega) (Ev.ite (fun h5 => ?_) (fun h5 => go _ (by unfold bad; rw [decide_eq_false h5]; simp)))
    refine Ev.pos (by omega) (Ev.ite (fun h6 => ?_) (fun h6 => go _ (by unfold bad; rw [decide_eq_false h6]; simp)))
    exact go _ (by unfold bad; rw [decide_eq_true h1, decide_eq_true h2, decide_eq_true h3, decide_eq_true h4, decide_eq_true h5, decide_eq_true h6]; simp)
theorem spec_l (L : List S71) (R : List S70) (hn : L.length ≤ 1048576) (hr : R.length = L.length) :
    ∀ (d i : Nat), L.length - i = d → i ≤ L.length → Ev (fun k => spec_Fair.l0 k L R (i : Int)) (fairS L R L.length d i) := by
  intro d
  induction d with
  | zero =>
    intro i hd hi
    refine Ev.succ ?_
    simp only [spec_Fair.l0]
    exact Ev.neg (by omega) (Ev.some rfl)
  | succ d ih =>
    intro i hd hi
    have hlt : i < L.length := by omega
    have ih := ih (i + 1) (by omega) (by omega)
    rw [← up i hlt (by omega)] at ih
    have e := spec_in L R hn hr i hlt _ ih L.length 0 (by omega) (by omega)
    refine Ev.succ ?_
    simp only [spec_Fair.l0, fairS]
    refine Ev.pos (by omega) (Ev.pos (by omega) (Ev.pos (by omega) (Ev.ite (fun h => ?_) (fun h => ?_))))
    · rw [decide_eq_true h, Bool.true_and]
      exact e
    · rw [decide_eq_false h]
      exact Ev.some rfl
theorem impl_in (L : List S71) (R : List S70) (hn : L.length ≤ 1048576) (hr : R.length = L.length) (i : Nat) (hi : i < L.length) (c : Bool) (hc : Ev (fun k => impl_Fair.l1 k L R L (L.length : Int) (wrap64 ((i : Int) + 1))) c) :
    ∀ (d j : Nat), L.length - j = d → j ≤ L.length → Ev (fun k => impl_Fair.l2 k L R (i : Int) L (L.length : Int) (i : Int) L (L.length : Int) (j : Int) (rd_T71 L (i : Int)).f0 (rd_T71 L (i : Int)).f1 (rd_T71 L (i : Int)).f2 (rd_T71 L (i : Int)).f3 (rd_T71 L (i : Int)).f4) (!anyBad L R (i : Int) d j && c) := by
  intro d
  induction d with
  | zero =>
    intro j hd hj
    refine Ev.succ ?_
    simp only [impl_Fair.l2]
    refine Ev.neg (by omega) ?_
    simpa only [anyBad, Bool.not_false, Bool.true_and] using hc
  | succ d ih =>
    intro j hd hj
    have hlt : j < L.length := by omega
    have ih := ih (j + 1) (by omega) (by omega)
    have go : ∀ b : Bool, bad L R (i : Int) (j : Int) = b → Ev (fun k => impl_Fair.j3 k L R (i : Int) L (L.length : Int) (i : Int) L (L.length : Int) (j : Int) b (rd_T71 L (i : Int)).f0 (rd_T71 L (i : Int)).f1 (rd_T71 L (i : Int)).f2 (rd_T71 L (i : Int)).f3 (rd_T71 L (i : Int)).f4) (!anyBad L R (i : Int) (d + 1) j && c) := by
      intro b hb
      refine Ev.succ ?_
      simp only [impl_Fair.j3, anyBad, hb]
      cases b with
      | true => exact Ev.pos rfl (Ev.some rfl)
      | false =>
        refine Ev.neg (by simp) ?_
        rw [up j hlt (by omega)]
        simpa only [Bool.false_or] using ih
    refine Ev.succ ?_
    simp only [impl_Fair.l2]
    refine Ev.pos (by omega) (Ev.pos (by omega) (Ev.pos (by omega) ?_))
    refine Ev.ite (fun h1 => ?_) (fun h1 => go _ (by simp [bad, h1]))
    refine Ev.ite (fun h2 => ?_) (fun h2 => go _ (by unfold bad; rw [decide_eq_false h2]; simp))
    refine Ev.ite (fun h3 => ?_) (fun h3 => go _ (by unfold bad; rw [decide_eq_false h3]; simp))
    refine Ev.pos (by omega) (Ev.pos (by omega) (Ev.ite (fun h5 => ?_) (fun h5 => go _ (by unfold bad; rw [decide_eq_false h5]; simp))))
    refine Ev.pos (by omega) (Ev.ite (fun h6 => ?_) (fun h6 => go _ (by unfold bad; rw [decide_eq_false h6]; simp)))
    refine Ev.ite (fun h4 => ?_) (fun h4 => go _ (by unfold bad; rw [decide_eq_false h4]; simp))
    exact go _ (by unfold bad; rw [decide_eq_true h1, decide_eq_true h2, decide_eq_true h3, decide_eq_true h4, decide_eq_true h5, decide_eq_true h6]; simp)
theorem impl_l1 (L : List S71) (R : List S70) (hn : L.length ≤ 1048576) (hr : R.length = L.length) :
    ∀ (d i : Nat), L.length - i = d → i ≤ L.length → Ev (fun k => impl_Fair.l1 k L R L (L.length : Int) (i : Int)) (fairI L R L.length d i) := by
  intro d
  induction d with
  | zero =>
    intro i hd hi
    refine Ev.succ ?_
    simp only [impl_Fair.l1]
    exact Ev.neg (by omega) (Ev.some rfl)
  | succ d ih =>
    intro i hd hi
    have hlt : i < L.length := by omega
    have ih := ih (i + 1) (by omega) (by omega)
    rw [← up i hlt (by omega)] at ih
    have e := impl_in L R hn hr i hlt _ ih L.length 0 (by omega) (by omega)
    refine Ev.succ ?_
    simp only [impl_Fair.l1, fairI]
    exact Ev.pos (by omega) (Ev.pos (by omega) (Ev.pos (by omega) e))
theorem impl_l (L : List S71) (R : List S70) (hn : L.length ≤ 1048576) (hr : R.length = L.length) :
    ∀ (d i : Nat), L.length - i = d → i ≤ L.length → Ev (fun k => impl_Fair.l0 k L R R (R.length : Int) (i : Int)) (inRow R d i && fairI L R L.length L.length 0) := by
  intro d
  induction d with
  | zero =>
    intro i hd hi
    refine Ev.succ ?_
    simp only [impl_Fair.l0, inRow, Bool.true_and]
    exact Ev.neg (by omega) (impl_l1 L R hn hr L.length 0 (by omega) (by omega))
  | succ d ih =>
    intro i hd hi
    have hlt : i < L.length := by omega
    refine Ev.succ ?_
    simp only [impl_Fair.l0, inRow]
    refine Ev.pos (by omega) (Ev.pos (by omega) (Ev.pos (by omega) (Ev.ite (fun h => ?_) (fun h => ?_))))
    · rw [decide_eq_true h, Bool.true_and, up i hlt (by omega)]
      exact ih (i + 1) (by omega) (by omega)
    · rw [decide_eq_false h]
      exact Ev.some rfl
theorem fair_both (L : List S71) (R : List S70) (hn : L.length ≤ 1048576) : ∃ b, Ev (fun k => spec_Fair.f k L R) b ∧ Ev (fun k => impl_Fair.f k L R) b := by
  unfold spec_Fair.f impl_Fair.f
  by_cases h : (L.length : Int) = (R.length : Int)
  · have hr : R.length = L.length := by omega
    have e1 := spec_l L R hn hr L.length 0 (by omega) (by omega)
    have e2 := impl_l L R hn hr L.length 0 (by omega) (by omega)
    rw [fair_same] at e1
    exact ⟨_, Ev.pos h e1, Ev.pos h e2⟩
  · exact ⟨false, Ev.neg h (Ev.some rfl), Ev.neg h (Ev.some rfl)⟩
theorem fair0 (l : List S66) (m : List S69) (hl : l.length ≤ 9223372036854775807) (hli : ∀ x ∈ l, x.f2.length ≤ 9223372036854775807) (hm : m.length ≤ 9223372036854775807) (hmi : ∀ x ∈ m, x.f2.length ≤ 9223372036854775807) : ∃ k, laws_FnExactFair.f k l m = some true := by
  apply Ev.rounds
  unfold laws_FnExactFair.f
  obtain ⟨q, eq, hq⟩ := szAskS_ev l 1048576 hl hli (by omega) (by omega)
  refine Ev.bind eq ?_
  rcases hq with hq | ⟨hq0, hq1, hq2, hq3⟩
  · exact Ev.pos hq (Ev.some rfl)
  · refine Ev.neg (by omega) ?_
    obtain ⟨p, ep, hp⟩ := szReplyS_ev m q hm hmi hq0 (by omega)
    refine Ev.bind ep ?_
    rcases hp with hp | ⟨hp0, hp1, hp2, hp3⟩
    · exact Ev.pos hp (Ev.some rfl)
    · refine Ev.neg (by omega) ?_
      have t1 := toAskS_ev l hq2 hq3
      have t2 := toReplyS_ev m hp2 hp3
      have hL : (l.map cA).length ≤ 1048576 := by rw [List.length_map]; exact hq2
      have hR : (m.map cR).length ≤ 1048576 := by rw [List.length_map]; exact hp2
      have hLi : ∀ x ∈ l.map cA, x.f2.length ≤ 1048576 := by
        intro x hx
        obtain ⟨y, hy, rfl⟩ := List.mem_map.1 hx
        exact hq3 y hy
      have hRi : ∀ x ∈ m.map cR, x.f2.length ≤ 1048576 := by
        intro x hx
        obtain ⟨y, hy, rfl⟩ := List.mem_map.1 hx
        exact hp3 y hy
      obtain ⟨b, e1, e2⟩ := fair_both (l.map cA) (m.map cR) hL
      refine Ev.bind t1 (Ev.bind t2 (Ev.bind e1 (Ev.bind t1 (Ev.bind t2 (Ev.bind e2 (Ev.neg (by simp) (Ev.bind t1 (Ev.bind (eqAskS_ev _ hL hLi) (Ev.pos rfl (Ev.bind t2 (Ev.bind (eqReplyS_ev _ hR hRi) (Ev.pos rfl (Ev.some rfl)))))))))))))
theorem FnExactFair (l : List S66) (m : List S69)
    (hg0 : l.length ≤ maxLen ∧ ∀ y ∈ l, (Lit.int .i64 y.f0).wf = true ∧ (Lit.int .i64 y.f1).wf = true ∧ (y.f2.length ≤ maxLen ∧ ∀ z ∈ y.f2, (Lit.int .i64 z).wf = true) ∧ (Lit.int .i64 y.f3).wf = true ∧ (Lit.int .i64 y.f4).wf = true)
    (hg1 : m.length ≤ maxLen ∧ ∀ y ∈ m, (Lit.int .i64 y.f0).wf = true ∧ (Lit.int .i64 y.f1).wf = true ∧ (y.f2.length ≤ maxLen ∧ ∀ z ∈ y.f2, (Lit.int .i64 z).wf = true) ∧ (Lit.int .i64 y.f3).wf = true) : ∃ k, laws_FnExactFair.f k l m = some true :=
  fair0 l m hg0.1 (fun x hx => (hg0.2 x hx).2.2.1.1) hg1.1 (fun x hx => (hg1.2 x hx).2.2.1.1)
end Go.Proofs.Ytpoblnigmfbnfaa.PureFnExactFair
