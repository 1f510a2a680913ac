/- The pure statement of FnExactFinish: program and reference agree on when workers are done. -/
import Derived.Test.YtpoblnigmfbnfacFLaw
import Derived.Test.YtpoblnigmfbnfacBase

namespace Go.Proofs.Ytpoblnigmfbnfac.PureFnExactFinish
set_option linter.unusedVariables false
set_option linter.unusedSimpArgs false
open Go.RowKit Go.Proofs.Ytpoblnigmfbnfac.PFnExactFinish Go.Proofs.YtpoblnigmfbnfacW.PrintWords Go.Proofs.YtpoblnigmfbnfacW.PrintLast Go.Proofs.YtpoblnigmfbnfacW.PrintMore Go.Proofs.Ytpoblnigmfbnfac.Base 
/-! ### lists of whole numbers taken over and held against each other -/
theorem toIntS_l (l : List Int) (hn : l.length ≤ 9223372036854775807) : ∀ (d i : Nat), l.length - i = d → i ≤ l.length → Ev (fun k => laws_toIntS.l0 k l (l.take i ++ List.replicate (l.length - i) 0) (i : Int)) l := by
  intro d
  induction d with
  | zero =>
    intro i hd hi
    refine Ev.succ ?_
    simp only [laws_toIntS.l0]
    refine Ev.neg (by omega) (Ev.some ?_)
    rw [hd, List.take_of_length_le (by omega)]
    simp
  | succ d ih =>
    intro i hd hi
    refine Ev.succ ?_
    simp only [laws_toIntS.l0]
    have hlt : i < l.length := by omega
    refine Ev.pos (by omega) (Ev.pos (by omega) (Ev.pos (by simp; omega) ?_))
    rw [rd_at hlt, up i hlt hn, Int.toNat_natCast, set_copy hlt]
    exact ih (i + 1) (by omega) (by omega)
theorem toIntS_ev (l : List Int) (h : l.length ≤ 35184372088832) : Ev (fun k => laws_toIntS.f k l) l := by
  unfold laws_toIntS.f
  refine Ev.pos (by omega) (Ev.pos (by omega) ?_)
  have := toIntS_l l (by omega) l.length 0 (by omega) (by omega)
  simpa using this
theorem eqIntS_l (l : List Int) (hn : l.length ≤ 9223372036854775807) : ∀ (d i : Nat), l.length - i = d → i ≤ l.length → Ev (fun k => laws_eqIntS.l0 k l l (i : Int)) true := by
  intro d
  induction d with
  | zero =>
    intro i hd hi
    refine Ev.succ ?_
    simp only [laws_eqIntS.l0]
    exact Ev.neg (by omega) (Ev.some rfl)
  | succ d ih =>
    intro i hd hi
    refine Ev.succ ?_
    simp only [laws_eqIntS.l0]
    have hlt : i < l.length := by omega
    refine Ev.pos (by omega) (Ev.pos (by omega) (Ev.pos (by omega) (Ev.pos (by trivial) ?_)))
    rw [up i hlt hn]
    exact ih (i + 1) (by omega) (by omega)
theorem eqIntS_ev (l : List Int) (h : l.length ≤ 9223372036854775807) : Ev (fun k => laws_eqIntS.f k l l) true := by
  unfold laws_eqIntS.f
  exact Ev.pos rfl (eqIntS_l l (by omega) l.length 0 (by omega) (by omega))
/-! ### marks: written into what was made, and found there again -/
def ups (a : Int) : Nat → List Int
  | 0 => []
  | n + 1 => a :: ups (a + 1) n
theorem ups_len : ∀ (n : Nat) (a : Int), (ups a n).length = n
  | 0, _ => rfl
  | n + 1, a => by simp [ups, ups_len n]
theorem ups_at : ∀ (n : Nat) (a : Int) (i : Nat) (h : i < (ups a n).length), (ups a n)[i] = a + i
  | 0, _, _, h => by simp [ups] at h
  | n + 1, a, 0, _ => by simp [ups]
  | n + 1, a, i + 1, h => by
    simp only [ups, List.getElem_cons_succ]
    rw [ups_at n (a + 1) i (by simpa [ups] using h)]
    omega
theorem set_over {β : Type} {L l : List β} {i : Nat} (h : i < L.length) (hl : l.length = L.length) : (L.take i ++ l.drop i).set i L[i] = L.take (i + 1) ++ l.drop (i + 1) := by
  have h' : i < l.length := by omega
  rw [List.drop_eq_getElem_cons h', List.set_append_right _ _ (by simp; omega), List.length_take, Nat.min_eq_left (by omega), Nat.sub_self, List.set_cons_zero, List.take_succ_eq_append_getElem h, List.append_assoc]
  rfl
theorem mark_l (l : List Int) (a : Int) (h0 : 0 ≤ a) (h1 : a + l.length ≤ 4611686018427387904) : ∀ (d i : Nat), l.length - i = d → i ≤ l.length → Ev (fun k => laws_markIntS.l0 k ((ups a l.length).take i ++ l.drop i) (a + i) (i : Int)) (a + l.length, ups a l.length) := by
  intro d
  induction d with
  | zero =>
    intro i hd hi
    refine Ev.succ ?_
    simp only [laws_markIntS.l0]
    have e : (ups a l.length).take i ++ l.drop i = ups a l.length := by
      rw [List.drop_eq_nil_of_le (by omega), List.append_nil, List.take_of_length_le (by rw [ups_len]; omega)]
    rw [e]
    exact Ev.neg (by rw [ups_len]; omega) (Ev.some (by rw [show i = l.length by omega]))
  | succ d ih =>
    intro i hd hi
    refine Ev.succ ?_
    simp only [laws_markIntS.l0]
    have hu : i < (ups a l.length).length := by rw [ups_len]; omega
    refine Ev.pos (by simp [ups_len]; omega) (Ev.pos (by omega) ?_)
    have e := set_over hu (l := l) (by rw [ups_len])
    rw [ups_at l.length a i hu] at e
    rw [Int.toNat_natCast, e, up i (by omega : i < l.length) (by omega), wrap_id (by omega) (by omega), show a + (i : Int) + 1 = a + ((i + 1 : Nat) : Int) by omega]
    exact ih (i + 1) (by omega) (by omega)
theorem mark_ev (l : List Int) (a : Int) (h0 : 0 ≤ a) (h1 : a + l.length ≤ 4611686018427387904) : Ev (fun k => laws_markIntS.f k l a) (a + l.length, ups a l.length) := by
  unfold laws_markIntS.f
  have := mark_l l a h0 h1 l.length 0 (by omega) (by omega)
  simpa using this
theorem held_l (n : Nat) (a : Int) (h0 : 0 ≤ a) (h1 : a + n ≤ 4611686018427387904) : ∀ (d i : Nat), n - i = d → i ≤ n → Ev (fun k => laws_heldIntS.l0 k (ups a n) (a + i) (i : Int)) (a + n) := by
  intro d
  induction d with
  | zero =>
    intro i hd hi
    refine Ev.succ ?_
    simp only [laws_heldIntS.l0]
    exact Ev.neg (by rw [ups_len]; omega) (Ev.some (by rw [show i = n by omega]))
  | succ d ih =>
    intro i hd hi
    refine Ev.succ ?_
    simp only [laws_heldIntS.l0]
    have hu : i < (ups a n).length := by rw [ups_len]; omega
    refine Ev.pos (by omega) (Ev.pos (by omega) ?_)
    rw [rd_at hu, ups_at n a i hu, up i (by omega : i < n) (by omega), wrap_id (by omega) (by omega), show a + (i : Int) + 1 = a + ((i + 1 : Nat) : Int) by omega]
    exact Ev.pos rfl (ih (i + 1) (by omega) (by omega))
theorem held_ev (n : Nat) (a : Int) (h0 : 0 ≤ a) (h1 : a + n ≤ 4611686018427387904) : Ev (fun k => laws_heldIntS.f k (ups a n) a) (a + n) := by
  unfold laws_heldIntS.f
  have := held_l n a h0 h1 n 0 (by omega) (by omega)
  simpa using this
/-! ### moves: taken over, held against each other, counted -/
theorem atS {l : List S92} {i : Nat} (h : i < l.length) : rd_T92 l (i : Int) = l[i] := getD_at h
theorem atL {l : List S117} {i : Nat} (h : i < l.length) : rd_T117 l (i : Int) = l[i] := getD_at h
theorem atSS {l : List (List S92)} {i : Nat} (h : i < l.length) : rd_L5 l (i : Int) = l[i] := getD_at h
theorem atMM {l : List (List S92)} {i : Nat} (h : i < l.length) : rdM l (i : Int) = l[i] := getD_at h
theorem atLL {l : List (List S117)} {i : Nat} (h : i < l.length) : rd_L3 l (i : Int) = l[i] := getD_at h
theorem getDS {l : List S92} {i : Nat} (h : i < l.length) : l.getD i z92 = l[i] := by
  rw [List.getD_eq_getElem?_getD, List.getElem?_eq_getElem h, Option.getD_some]
def convM (x : S117) : S92 := ⟨x.f0, x.f1, x.f2, x.f3⟩
theorem toM_l (l : List S117) (hn : l.length ≤ 9223372036854775807) : ∀ (d i : Nat), l.length - i = d → i ≤ l.length → Ev (fun k => laws_toMoveS.l0 k l ((l.map convM).take i ++ List.replicate ((l.map convM).length - i) z92) (i : Int)) (l.map convM) := by
  intro d
  induction d with
  | zero =>
    intro i hd hi
    refine Ev.succ ?_
    simp only [laws_toMoveS.l0]
    refine Ev.neg (by omega) (Ev.some ?_)
    rw [List.length_map, hd, List.take_of_length_le (by simp; omega)]
    simp
  | succ d ih =>
    intro i hd hi
    refine Ev.succ ?_
    simp only [laws_toMoveS.l0]
    have hlt : i < l.length := by omega
    have hlt' : i < (l.map convM).length := by simpa using hlt
    refine Ev.pos (by omega) (Ev.pos (by omega) ?_)
    simp only [laws_toMove.f, Option.bind_some]
    refine Ev.pos (by simp; omega) ?_
    rw [atL hlt, up i hlt hn, Int.toNat_natCast]
    have := set_fill (z := z92) hlt'
    rw [show (⟨l[i].f0, l[i].f1, l[i].f2, l[i].f3⟩ : S92) = (l.map convM)[i] by rw [List.getElem_map]; rfl, this]
    exact ih (i + 1) (by omega) (by omega)
theorem toM_ev (l : List S117) (h : l.length ≤ 8796093022208) : Ev (fun k => laws_toMoveS.f k l) (l.map convM) := by
  unfold laws_toMoveS.f
  refine Ev.pos (by omega) (Ev.pos (by omega) ?_)
  have := toM_l l (by omega) l.length 0 (by omega) (by omega)
  simpa using this
theorem toMM_l (l : List (List S117)) (hn : l.length ≤ 9223372036854775807) (hr : ∀ r ∈ l, r.length ≤ 8796093022208) : ∀ (d i : Nat), l.length - i = d → i ≤ l.length → Ev (fun k => laws_toMoveSS.l0 k l ((l.map (List.map convM)).take i ++ List.replicate ((l.map (List.map convM)).length - i) []) (i : Int)) (l.map (List.map convM)) := by
  intro d
  induction d with
  | zero =>
    intro i hd hi
    refine Ev.succ ?_
    simp only [laws_toMoveSS.l0]
    refine Ev.neg (by omega) (Ev.some ?_)
    rw [List.length_map, hd, List.take_of_length_le (by simp; omega)]
    simp
  | succ d ih =>
    intro i hd hi
    refine Ev.succ ?_
    simp only [laws_toMoveSS.l0]
    have hlt : i < l.length := by omega
    have hlt' : i < (l.map (List.map convM)).length := by simpa using hlt
    refine Ev.pos (by omega) (Ev.pos (by omega) ?_)
    rw [atLL hlt]
    refine Ev.bind (toM_ev l[i] (hr _ (List.getElem_mem hlt))) (Ev.pos (by simp; omega) ?_)
    rw [up i hlt hn, Int.toNat_natCast]
    have := set_fill (z := ([] : List S92)) hlt'
    rw [show l[i].map convM = (l.map (List.map convM))[i] by rw [List.getElem_map], this]
    exact ih (i + 1) (by omega) (by omega)
theorem toMM_ev (l : List (List S117)) (h : l.length ≤ 1048576) (hr : ∀ r ∈ l, r.length ≤ 1048576) : Ev (fun k => laws_toMoveSS.f k l) (l.map (List.map convM)) := by
  unfold laws_toMoveSS.f
  refine Ev.pos (by omega) (Ev.pos (by omega) ?_)
  have := toMM_l l (by omega) (fun r h => by have := hr r h; omega) l.length 0 (by omega) (by omega)
  simpa using this
theorem eqM_l (l : List S92) (hn : l.length ≤ 9223372036854775807) : ∀ (d i : Nat), l.length - i = d → i ≤ l.length → Ev (fun k => laws_eqMoveS.l0 k l l (i : Int)) true := by
  intro d
  induction d with
  | zero =>
    intro i hd hi
    refine Ev.succ ?_
    simp only [laws_eqMoveS.l0]
    exact Ev.neg (by omega) (Ev.some rfl)
  | succ d ih =>
    intro i hd hi
    refine Ev.succ ?_
    simp only [laws_eqMoveS.l0]
    have hlt : i < l.length := by omega
    refine Ev.pos (by omega) (Ev.pos (by omega) (Ev.pos (by omega) (Ev.b (a := true) (by simp [laws_eqMove.f]) (Ev.pos rfl ?_))))
    rw [up i hlt hn]
    exact ih (i + 1) (by omega) (by omega)
theorem eqMM_l (l : List (List S92)) (hn : l.length ≤ 9223372036854775807) (hr : ∀ r ∈ l, r.length ≤ 8796093022208) : ∀ (d i : Nat), l.length - i = d → i ≤ l.length → Ev (fun k => laws_eqMoveSS.l0 k l l (i : Int)) true := by
  intro d
  induction d with
  | zero =>
    intro i hd hi
    refine Ev.succ ?_
    simp only [laws_eqMoveSS.l0]
    exact Ev.neg (by omega) (Ev.some rfl)
  | succ d ih =>
    intro i hd hi
    refine Ev.succ ?_
    simp only [laws_eqMoveSS.l0]
    have hlt : i < l.length := by omega
    have e : Ev (fun k => laws_eqMoveS.f k (rd_L5 l (i : Int)) (rd_L5 l (i : Int))) true := by
      unfold laws_eqMoveS.f
      rw [atSS hlt]
      exact Ev.pos rfl (eqM_l l[i] (by have := hr _ (List.getElem_mem hlt); omega) l[i].length 0 (by omega) (by omega))
    refine Ev.pos (by omega) (Ev.pos (by omega) (Ev.pos (by omega) (Ev.bind e (Ev.pos rfl ?_))))
    rw [up i hlt hn]
    exact ih (i + 1) (by omega) (by omega)
theorem eqMM_ev (l : List (List S92)) (h : l.length ≤ 1048576) (hr : ∀ r ∈ l, r.length ≤ 1048576) : Ev (fun k => laws_eqMoveSS.f k l l) true := by
  unfold laws_eqMoveSS.f
  exact Ev.pos rfl (eqMM_l l (by omega) (fun r hm => by have := hr r hm; omega) l.length 0 (by omega) (by omega))
/-- What is left of a million, when all rows are counted: nothing, or the rows are short. -/
theorem sz_l (l : List (List S117)) (hn : l.length ≤ 9223372036854775807) (hr : ∀ r ∈ l, r.length ≤ 9223372036854775807) : ∀ (d i : Nat) (a : Int), l.length - i = d → i ≤ l.length → 0 ≤ a → a ≤ 1048576 → ∃ t, Ev (fun k => laws_szMoveSS.l0 k l a (i : Int)) t ∧ (0 ≤ t → ∀ j (h : j < l.length), i ≤ j → l[j].length ≤ 1048576) := by
  intro d
  induction d with
  | zero =>
    intro i a hd hi h0 h1
    refine ⟨a, Ev.succ ?_, fun _ j h hj => by omega⟩
    simp only [laws_szMoveSS.l0]
    exact Ev.neg (by omega) (Ev.some rfl)
  | succ d ih =>
    intro i a hd hi h0 h1
    have hlt : i < l.length := by omega
    have hri := hr _ (List.getElem_mem hlt)
    have hw : wrap64 (a - (l[i].length : Int)) = a - (l[i].length : Int) := by rw [wrap_id] <;> omega
    by_cases c : a - (l[i].length : Int) < 0
    · refine ⟨-1, Ev.succ ?_, fun h => by omega⟩
      simp only [laws_szMoveSS.l0, laws_szMoveS.f]
      rw [atLL hlt, hw, if_pos c]
      exact Ev.pos (by omega) (Ev.pos (by omega) (Ev.b rfl (Ev.pos (by omega) (Ev.some rfl))))
    · obtain ⟨t, ht, hj⟩ := ih (i + 1) (a - (l[i].length : Int)) (by omega) (by omega) (by omega) (by omega)
      refine ⟨t, Ev.succ ?_, fun h0t j h hij => ?_⟩
      · simp only [laws_szMoveSS.l0, laws_szMoveS.f]
        rw [atLL hlt, hw, if_neg c]
        refine Ev.pos (by omega) (Ev.pos (by omega) (Ev.b rfl (Ev.neg c ?_)))
        rw [up i hlt hn]
        exact ht
      · by_cases e : j = i
        · subst e
          omega
        · exact hj h0t j h (by omega)
theorem sz_ev (l : List (List S117)) (hn : l.length ≤ 9223372036854775807) (hr : ∀ r ∈ l, r.length ≤ 9223372036854775807) : ∃ t, Ev (fun k => laws_szMoveSS.f k l 1048576) t ∧ (0 ≤ t → l.length ≤ 1048576 ∧ ∀ r ∈ l, r.length ≤ 1048576) := by
  unfold laws_szMoveSS.f
  rw [wrap_id (by omega) (by omega)]
  by_cases c : (1048576 : Int) - (l.length : Int) < 0
  · exact ⟨-1, Ev.pos c (Ev.some rfl), fun h => by omega⟩
  · obtain ⟨t, ht, hj⟩ := sz_l l hn hr l.length 0 (1048576 - (l.length : Int)) (by omega) (by omega) (by omega) (by omega)
    refine ⟨t, Ev.neg c ht, fun h => ⟨by omega, fun r hm => ?_⟩⟩
    obtain ⟨j, hj1, rfl⟩ := List.mem_iff_getElem.1 hm
    exact hj h j hj1 (by omega)
theorem mkM_l : ∀ (d i : Nat) (L : List S92) (a : Int), L.length - i = d → i ≤ L.length → L.length ≤ 1048576 → 0 ≤ a → a ≤ 4611686018427387904 + 4 * (i : Int) → ∃ L', Ev (fun k => laws_markMoveS.l0 k L a (i : Int)) (a + 4 * d, L') := by
  intro d
  induction d with
  | zero =>
    intro i L a hd hi hn h0 h1
    refine ⟨L, Ev.succ ?_⟩
    simp only [laws_markMoveS.l0]
    exact Ev.neg (by omega) (Ev.some (by simp))
  | succ d ih =>
    intro i L a hd hi hn h0 h1
    have hlt : i < L.length := by omega
    obtain ⟨L', h⟩ := ih (i + 1) ((((L.set i ⟨a, (rd_T92 L (i : Int)).f1, (rd_T92 L (i : Int)).f2, (rd_T92 L (i : Int)).f3⟩).set i ⟨(rd_T92 (L.set i ⟨a, (rd_T92 L (i : Int)).f1, (rd_T92 L (i : Int)).f2, (rd_T92 L (i : Int)).f3⟩) (i : Int)).f0, wrap64 (a + 1), (rd_T92 (L.set i ⟨a, (rd_T92 L (i : Int)).f1, (rd_T92 L (i : Int)).f2, (rd_T92 L (i : Int)).f3⟩) (i : Int)).f2, (rd_T92 (L.set i ⟨a, (rd_T92 L (i : Int)).f1, (rd_T92 L (i : Int)).f2, (rd_T92 L (i : Int)).f3⟩) (i : Int)).f3⟩).set i _).set i _) (a + 4) (by simp; omega) (by simp; omega) (by simpa using hn) (by omega) (by omega)
    refine ⟨L', Ev.succ ?_⟩
    simp only [laws_markMoveS.l0]
    refine Ev.pos (by omega) (Ev.pos (by omega) (Ev.b rfl (Ev.b rfl (Ev.b rfl ?_))))
    rw [Int.toNat_natCast, up i hlt (by omega)]
    have e : wrap64 (wrap64 (wrap64 (wrap64 (a + 1) + 1) + 1) + 1) = a + 4 := by
      rw [wrap_id (n := a + 1) (by omega) (by omega), wrap_id (n := a + 1 + 1) (by omega) (by omega), wrap_id (n := a + 1 + 1 + 1) (by omega) (by omega), wrap_id] <;> omega
    rw [e, show a + 4 * ((d + 1 : Nat) : Int) = a + 4 + 4 * (d : Int) by omega]
    exact h
theorem mkM_ev (L : List S92) (a : Int) (hn : L.length ≤ 1048576) (h0 : 0 ≤ a) (h1 : a ≤ 4611686018427387904) : ∃ L', Ev (fun k => laws_markMoveS.f k L a) (a + 4 * (L.length : Int), L') := by
  unfold laws_markMoveS.f
  have := mkM_l L.length 0 L a (by omega) (by omega) hn h0 (by omega)
  simpa using this
theorem mkSS_l : ∀ (d i : Nat) (L : List (List S92)) (a : Int), L.length - i = d → i ≤ L.length → L.length ≤ 1048576 → (∀ j, i ≤ j → (L.getD j []).length ≤ 1048576) → 0 ≤ a → a ≤ 4294967296 * ((i : Int) + 1) → ∃ t, Ev (fun k => mkSS k L a (i : Int)) t ∧ 0 ≤ t ∧ t ≤ 9007199254740992 := by
  intro d
  induction d with
  | zero =>
    intro i L a hd hi hn hr h0 h1
    refine ⟨a, Ev.succ ?_, h0, by omega⟩
    simp only [mkSS]
    exact Ev.neg (by omega) (Ev.some rfl)
  | succ d ih =>
    intro i L a hd hi hn hr h0 h1
    have hlt : i < L.length := by omega
    have hi' := hr i (Nat.le_refl _)
    obtain ⟨L', h⟩ := mkM_ev (L.getD i []) a hi' h0 (by omega)
    obtain ⟨t, ht, h2⟩ := ih (i + 1) (L.set i L') (a + 4 * ((L.getD i []).length : Int)) (by rw [List.length_set]; omega) (by rw [List.length_set]; omega) (by rw [List.length_set]; exact hn) (fun j hj => by
      rw [List.getD_eq_getElem?_getD, List.getElem?_set_ne (by omega), ← List.getD_eq_getElem?_getD]
      exact hr j (by omega)) (by omega) (by omega)
    refine ⟨t, Ev.succ ?_, h2⟩
    simp only [mkSS]
    refine Ev.pos (by omega) (Ev.pos (by omega) ?_)
    rw [Int.toNat_natCast, up i hlt (by omega)]
    exact Ev.bind h ht
/-! ### which moves are right -/
theorem within_f (a b c : Int) : impl_within.f a b c = some (decide (b ≤ a) && decide (a ≤ c)) := by
  unfold impl_within.f
  by_cases h : b ≤ a
  · rw [if_pos (show a ≥ b from h)]
    simp [h]
  · rw [if_neg (show ¬ a ≥ b from h)]
    simp [h]
theorem l5In_f (a b c : Int) : spec_l5In.f a b c = some (decide (b ≤ a) && decide (a ≤ c)) := within_f a b c
def allUp (p : Nat → Bool) : Nat → Nat → Bool
  | 0, _ => true
  | d + 1, i => p i && allUp p d (i + 1)
theorem allUp_iff (p : Nat → Bool) : ∀ d i, allUp p d i = true ↔ ∀ j, i ≤ j → j < i + d → p j = true
  | 0, i => by simp [allUp]; omega
  | d + 1, i => by
    simp only [allUp, Bool.and_eq_true, allUp_iff p d (i + 1)]
    constructor
    · rintro ⟨h1, h2⟩ j hj hj2
      by_cases e : j = i
      · subst e; exact h1
      · exact h2 j (by omega) (by omega)
    · exact fun h => ⟨h i (by omega) (by omega), fun j hj hj2 => h j (by omega) (by omega)⟩
def okB (n c : Int) (m : S92) : Bool := (decide (0 ≤ m.f0) && decide (m.f0 ≤ wrap64 (n - 1))) && ((decide (0 ≤ m.f1) && decide (m.f1 ≤ wrap64 (n - 1))) && (!decide (m.f0 = m.f1) && (decide (0 ≤ m.f2) && decide (m.f2 ≤ wrap64 (c - 1)))))
def keyM (m : S92) : PKy := ⟨m.f1, m.f2⟩
def freeB (r : List S92) (j : Nat) : Bool := !decide (keyM (r.getD j z92) ∈ (r.take j).map keyM)
def rowB (n c : Int) (r : List S92) : Nat → Nat → Bool := allUp fun j => okB n c (r.getD j z92) && freeB r j
def rndV (n c : Int) (l : List (List S92)) : Nat → Nat → Int → Bool
  | 0, _, _ => true
  | d + 1, i, s => if wrap64 (s + ((l.getD i []).length : Int)) > 5000 then false else rowB n c (l.getD i []) (l.getD i []).length 0 && rndV n c l d (i + 1) (wrap64 (s + ((l.getD i []).length : Int)))
theorem bad_f (r : List S92) (n c : Int) (T : List PKy) (j : Nat) (hj : j < r.length) : badM r n c T (j : Int) = some (!(okB n c (r.getD j z92) && !decide (keyM (r.getD j z92) ∈ T))) := by
  unfold badM okB keyM
  rw [atS hj, ← getDS hj]
  simp only [within_f, Option.bind_some]
  cases (decide (0 ≤ (r.getD j z92).f0) && decide ((r.getD j z92).f0 ≤ wrap64 (n - 1))) with
  | false => rfl
  | true =>
    rw [if_pos rfl]
    cases (decide (0 ≤ (r.getD j z92).f1) && decide ((r.getD j z92).f1 ≤ wrap64 (n - 1))) with
    | false => rfl
    | true =>
      rw [if_pos rfl]
      by_cases e : (r.getD j z92).f0 = (r.getD j z92).f1
      · rw [if_pos e, decide_eq_true e]
        rfl
      · rw [if_neg e, decide_eq_false e]
        cases (decide (0 ≤ (r.getD j z92).f2) && decide ((r.getD j z92).f2 ≤ wrap64 (c - 1))) with
        | false => rfl
        | true =>
          rw [if_pos rfl]
          simp
theorem mvL_ev (r : List S92) (n c : Int) (hn : r.length ≤ 1048576) : ∀ (d j : Nat), r.length - j = d → j ≤ r.length → Ev (fun k => mvL k r n c ((r.take j).map keyM).reverse (j : Int)) (rowB n c r d j) := by
  intro d
  induction d with
  | zero =>
    intro j hd hj
    refine Ev.succ ?_
    simp only [mvL]
    exact Ev.neg (by omega) (Ev.some rfl)
  | succ d ih =>
    intro j hd hj
    refine Ev.succ ?_
    simp only [mvL]
    have hlt : j < r.length := by omega
    have nx := ih (j + 1) (by omega) (by omega)
    refine Ev.pos (by omega) (Ev.pos (by omega) (Ev.b (bad_f r n c _ j hlt) ?_))
    rw [atS hlt, up j hlt (by omega)]
    have e1 : decide (keyM (r.getD j z92) ∈ ((r.take j).map keyM).reverse) = decide (keyM (r.getD j z92) ∈ (r.take j).map keyM) := by
      simp only [List.mem_reverse]
    have e2 : ((⟨r[j].f1, r[j].f2⟩ : PKy) :: ((r.take j).map keyM).reverse) = ((r.take (j + 1)).map keyM).reverse := by
      rw [List.take_succ_eq_append_getElem hlt, List.map_append, List.reverse_append]
      rfl
    rw [e1, e2]
    unfold rowB at nx ⊢
    simp only [allUp, freeB]
    cases (okB n c (r.getD j z92) && !decide (keyM (r.getD j z92) ∈ (r.take j).map keyM)) with
    | false => exact Ev.pos rfl (Ev.some rfl)
    | true => exact Ev.neg (by simp) nx
theorem mvO_ev (l : List (List S92)) (n c : Int) (hn : l.length ≤ 1048576) (hr : ∀ r ∈ l, r.length ≤ 1048576) : ∀ (d i : Nat) (s : Int), l.length - i = d → i ≤ l.length → Ev (fun k => mvO k l n c s (i : Int)) (rndV n c l d i s) := by
  intro d
  induction d with
  | zero =>
    intro i s hd hi
    refine Ev.succ ?_
    simp only [mvO]
    exact Ev.neg (by omega) (Ev.some rfl)
  | succ d ih =>
    intro i s hd hi
    refine Ev.succ ?_
    simp only [mvO]
    have hlt : i < l.length := by omega
    have hg : l.getD i [] = l[i] := by rw [List.getD_eq_getElem?_getD, List.getElem?_eq_getElem hlt, Option.getD_some]
    have hri := hr _ (List.getElem_mem hlt)
    refine Ev.pos (by omega) (Ev.pos (by omega) ?_)
    rw [atMM hlt, up i hlt (by omega)]
    simp only [rndV, hg]
    refine Ev.ite (fun h => ?_) (fun h => ?_)
    · rw [if_pos h]
      exact Ev.some rfl
    · rw [if_neg h]
      have m := mvL_ev l[i] n c hri l[i].length 0 (by omega) (by omega)
      refine Ev.pos (by omega) (Ev.bind (by simpa using m) ?_)
      cases rowB n c l[i] l[i].length 0 with
      | false => exact Ev.neg (by simp) (Ev.some rfl)
      | true => exact Ev.pos rfl (ih (i + 1) _ (by omega) (by omega))
theorem s2_ev (l : List (List S92)) (n c s : Int) {i j : Nat} (hi : i < l.length) (hj : j < l[i].length) (hn : l[i].length ≤ 1048576) {v : Bool} (hv : Ev (fun k => spec_MovesOk.l1 k l n c s (i : Int) ((j + 1 : Nat) : Int)) v) :
    ∀ (d q : Nat), j - q = d → q ≤ j → Ev (fun k => spec_MovesOk.l2 k l n c s (i : Int) (j : Int) (q : Int) l[i][j].f0 l[i][j].f1 l[i][j].f2 l[i][j].f3) ((!decide (keyM l[i][j] ∈ ((l[i].take j).drop q).map keyM)) && v) := by
  intro d
  induction d with
  | zero =>
    intro q hd hq
    refine Ev.succ ?_
    simp only [spec_MovesOk.l2]
    rw [up j hj (by omega)]
    refine Ev.neg (by omega) ?_
    rw [List.drop_eq_nil_of_le (by simp; omega)]
    simpa using hv
  | succ d ih =>
    intro q hd hq
    refine Ev.succ ?_
    simp only [spec_MovesOk.l2]
    have hql : q < l[i].length := by omega
    have hqt : q < (l[i].take j).length := by simp; omega
    have nx := ih (q + 1) (by omega) (by omega)
    refine Ev.pos (by omega) (Ev.pos (by omega) (Ev.pos (by omega) (Ev.pos (by omega) ?_)))
    rw [atSS hi, atS hql, up q hql (by omega)]
    have e : ((l[i].take j).drop q).map keyM = keyM l[i][q] :: ((l[i].take j).drop (q + 1)).map keyM := by
      rw [drop_at hqt, List.map_cons, List.getElem_take]
    rw [e]
    refine Ev.pos (by omega) (Ev.ite (fun h1 => Ev.ite (fun h2 => Ev.some ?_) (fun h2 => ?_)) (fun h1 => ?_))
    · have : keyM l[i][j] = keyM l[i][q] := by simp [keyM, h1, h2]
      simp [this]
    · have hne : keyM l[i][j] ≠ keyM l[i][q] := fun e' => h2 (by simp [keyM] at e'; exact e'.2.symm)
      simpa [hne] using nx
    · have hne : keyM l[i][j] ≠ keyM l[i][q] := fun e' => h1 (by simp [keyM] at e'; exact e'.1.symm)
      simpa [hne] using nx
theorem s1_ev (l : List (List S92)) (n c s : Int) {i : Nat} (hi : i < l.length) (hn : l[i].length ≤ 1048576) (hl : l.length ≤ 1048576) {v : Bool} (hv : Ev (fun k => spec_MovesOk.l0 k l n c s ((i + 1 : Nat) : Int)) v) :
    ∀ (d j : Nat), l[i].length - j = d → j ≤ l[i].length → Ev (fun k => spec_MovesOk.l1 k l n c s (i : Int) (j : Int)) (rowB n c l[i] d j && v) := by
  intro d
  induction d with
  | zero =>
    intro j hd hj
    refine Ev.succ ?_
    simp only [spec_MovesOk.l1]
    rw [atSS hi, up i hi (by omega)]
    exact Ev.pos (by omega) (Ev.pos (by omega) (Ev.neg (by omega) (by simpa [rowB, allUp] using hv)))
  | succ d ih =>
    intro j hd hj
    refine Ev.succ ?_
    simp only [spec_MovesOk.l1]
    have hlt : j < l[i].length := by omega
    have nx := ih (j + 1) (by omega) (by omega)
    have J : ∀ x : Bool, Ev (fun k => spec_MovesOk.j3 k l n c s (i : Int) (j : Int) x l[i][j].f0 l[i][j].f1 l[i][j].f2 l[i][j].f3) (!x && (freeB l[i] j && (rowB n c l[i] d (j + 1) && v))) := by
      intro x
      refine Ev.succ ?_
      simp only [spec_MovesOk.j3]
      cases x with
      | true => exact Ev.pos rfl (Ev.some rfl)
      | false =>
        refine Ev.neg (by simp) ?_
        have := s2_ev l n c s hi hlt hn nx j 0 (by omega) (by omega)
        unfold freeB
        rw [getDS hlt]
        simpa using this
    refine Ev.pos (by omega) (Ev.pos (by omega) ?_)
    rw [atSS hi, atS hlt]
    refine Ev.pos (by omega) (Ev.pos (by omega) ?_)
    simp only [l5In_f, Option.bind_some]
    have hrow : rowB n c l[i] (d + 1) j = ((okB n c l[i][j] && freeB l[i] j) && rowB n c l[i] d (j + 1)) := by
      unfold rowB
      simp only [allUp, getDS hlt]
    rw [hrow]
    unfold okB
    refine Ev.ite (fun h1 => ?_) (fun h1 => ?_)
    · rw [h1]
      refine Ev.ite (fun h2 => ?_) (fun h2 => ?_)
      · rw [h2]
        refine Ev.ite (fun h3 => ?_) (fun h3 => ?_)
        · rw [decide_eq_true h3]
          simpa using J true
        · rw [decide_eq_false h3]
          have := J (!(decide (0 ≤ l[i][j].f2) && decide (l[i][j].f2 ≤ wrap64 (c - 1))))
          simpa only [Bool.true_and, Bool.not_false, Bool.not_not, Bool.and_assoc] using this
      · rw [Bool.eq_false_iff.2 h2]
        simpa using J true
    · rw [Bool.eq_false_iff.2 h1]
      simpa using J true
theorem s0_ev (l : List (List S92)) (n c : Int) (hl : l.length ≤ 1048576) (hr : ∀ r ∈ l, r.length ≤ 1048576) : ∀ (d i : Nat) (s : Int), l.length - i = d → i ≤ l.length → Ev (fun k => spec_MovesOk.l0 k l n c s (i : Int)) (rndV n c l d i s) := by
  intro d
  induction d with
  | zero =>
    intro i s hd hi
    refine Ev.succ ?_
    simp only [spec_MovesOk.l0]
    exact Ev.neg (by omega) (Ev.some rfl)
  | succ d ih =>
    intro i s hd hi
    refine Ev.succ ?_
    simp only [spec_MovesOk.l0]
    have hlt : i < l.length := by omega
    have hg : l.getD i [] = l[i] := by rw [List.getD_eq_getElem?_getD, List.getElem?_eq_getElem hlt, Option.getD_some]
    have hri := hr _ (List.getElem_mem hlt)
    refine Ev.pos (by omega) (Ev.pos (by omega) ?_)
    rw [atSS hlt]
    simp only [rndV, hg]
    refine Ev.ite (fun h => ?_) (fun h => ?_)
    · rw [if_pos h]
      exact Ev.some rfl
    · rw [if_neg h]
      exact s1_ev l n c _ hlt hri hl (ih (i + 1) _ (by omega) (by omega)) l[i].length 0 (by omega) (by omega)
theorem rndV_all (n c : Int) (l : List (List S92)) : ∀ (d i : Nat) (s : Int), l.length - i = d → rndV n c l d i s = true → ∀ j (h : j < l.length), i ≤ j → ∀ m ∈ l[j], okB n c m = true := by
  intro d
  induction d with
  | zero => exact fun i s hd h j hj hij => by omega
  | succ d ih =>
    intro i s hd h j hj hij m hm
    simp only [rndV] at h
    split at h
    · cases h
    · simp only [Bool.and_eq_true] at h
      by_cases e : j = i
      · subst e
        have hg : l.getD j [] = l[j] := by rw [List.getD_eq_getElem?_getD, List.getElem?_eq_getElem hj, Option.getD_some]
        rw [hg] at h
        obtain ⟨q, hq, rfl⟩ := List.mem_iff_getElem.1 hm
        have := (allUp_iff _ _ _).1 h.1 q (by omega) (by omega)
        simp only [Bool.and_eq_true, getDS hq] at this
        exact this.1
      · exact ih (i + 1) _ (by omega) h.2 j hj (by omega) m hm
theorem moves_both (l : List (List S92)) (hl : l.length ≤ 1048576) (hr : ∀ r ∈ l, r.length ≤ 1048576) (a b : Int) : ∃ v, Ev (fun k => spec_MovesOk.f k l a b) v ∧ Ev (fun k => impl_MovesOk.f k l a b) v ∧ (v = true → (1 ≤ a ∧ a ≤ 64) ∧ (1 ≤ b ∧ b ≤ 64) ∧ l.length ≤ 300 ∧ ∀ r ∈ l, ∀ m ∈ r, okB a b m = true) := by
  unfold spec_MovesOk.f impl_MovesOk.f
  simp only [l5In_f, within_f, Option.bind_some]
  have jf : Ev (fun k => spec_MovesOk.j0 k l a b true) false := by
    refine Ev.succ ?_
    simp only [spec_MovesOk.j0]
    exact Ev.pos trivial (Ev.some rfl)
  by_cases h1 : (decide (1 ≤ a) && decide (a ≤ 64)) = true
  · by_cases h2 : (decide (1 ≤ b) && decide (b ≤ 64)) = true
    · rw [h1, h2]
      simp only [Bool.and_eq_true, decide_eq_true_eq] at h1 h2
      by_cases h3 : (l.length : Int) > 300
      · refine ⟨false, Ev.pos rfl (Ev.pos rfl ?_), Ev.pos rfl (Ev.pos rfl (Ev.pos h3 (Ev.some rfl))), by simp⟩
        rw [decide_eq_true h3]
        exact jf
      · refine ⟨rndV a b l l.length 0 0, Ev.pos rfl (Ev.pos rfl (Ev.succ ?_)), Ev.pos rfl (Ev.pos rfl (Ev.neg h3 ?_)), fun hv => ⟨h1, h2, by omega, fun r hm m hmm => ?_⟩⟩
        · simp only [spec_MovesOk.j0]
          refine Ev.neg (by rw [decide_eq_false h3]; simp) ?_
          exact s0_ev l a b hl hr l.length 0 0 (by omega) (by omega)
        · exact mvO_ev l a b hl hr l.length 0 0 (by omega) (by omega)
        · obtain ⟨j, hj, rfl⟩ := List.mem_iff_getElem.1 hm
          exact rndV_all a b l l.length 0 0 (by omega) hv j hj (by omega) m hmm
    · rw [h1, Bool.eq_false_iff.2 h2]
      exact ⟨false, Ev.pos rfl (Ev.neg (by simp) jf), Ev.pos rfl (Ev.neg (by simp) (Ev.some rfl)), by simp⟩
  · rw [Bool.eq_false_iff.2 h1]
    exact ⟨false, Ev.neg (by simp) jf, Ev.neg (by simp) (Ev.some rfl), by simp⟩
/-! ### when workers are done -/
theorem set_rd {l : List Int} {i : Nat} (h : i < l.length) : l.set i (rd l (i : Int)) = l := by
  rw [rd_at h, List.set_getElem_self]
theorem rd_set_same {l : List Int} {i : Nat} (h : i < l.length) (v : Int) : rd (l.set i v) (i : Int) = v := by
  rw [rd_at (by rw [List.length_set]; exact h), List.getElem_set_self]
def stepF (sp : List Int) (sn : List Int × List Int) (m : S92) : List Int × List Int :=
  (sn.1.set m.f0.toNat (wrap64 (rd sn.1 m.f0 + rd sp m.f0)),
   (sn.2.set m.f0.toNat (mx (rd sn.2 m.f0) (rd (sn.1.set m.f0.toNat (wrap64 (rd sn.1 m.f0 + rd sp m.f0))) m.f0))).set m.f1.toNat
     (mx (rd (sn.2.set m.f0.toNat (mx (rd sn.2 m.f0) (rd (sn.1.set m.f0.toNat (wrap64 (rd sn.1 m.f0 + rd sp m.f0))) m.f0))) m.f1) (rd (sn.1.set m.f0.toNat (wrap64 (rd sn.1 m.f0 + rd sp m.f0))) m.f0)))
theorem stepF_len (sp : List Int) (sn : List Int × List Int) (m : S92) : (stepF sp sn m).1.length = sn.1.length ∧ (stepF sp sn m).2.length = sn.2.length := by simp [stepF]
def runF (sp : List Int) (sn : List Int × List Int) (r : List S92) : List Int × List Int := r.foldl (stepF sp) sn
theorem runF_len (sp : List Int) : ∀ (r : List S92) (sn : List Int × List Int), (runF sp sn r).1.length = sn.1.length ∧ (runF sp sn r).2.length = sn.2.length
  | [], _ => ⟨rfl, rfl⟩
  | m :: r, sn => by
    have h1 := runF_len sp r (stepF sp sn m)
    have h2 := stepF_len sp sn m
    unfold runF at h1 ⊢
    rw [List.foldl_cons]
    exact ⟨h1.1.trans h2.1, h1.2.trans h2.2⟩
def roundF (sp free : List Int) (r : List S92) : List Int := (runF sp (free, free) r).2
def doneF (sp : List Int) (l : List (List S92)) (free : List Int) : List Int := l.foldl (roundF sp) free
theorem roundF_len (sp free : List Int) (r : List S92) : (roundF sp free r).length = free.length := (runF_len sp r (free, free)).2
theorem doneF_len (sp : List Int) : ∀ (l : List (List S92)) (free : List Int), (doneF sp l free).length = free.length
  | [], _ => rfl
  | r :: l, free => by
    have := doneF_len sp l (roundF sp free r)
    unfold doneF at this ⊢
    rw [List.foldl_cons, this, roundF_len]
theorem f1_ev (sp : List Int) (l : List (List S92)) (hl : l.length ≤ 1048576) {N i : Nat} (hi : i < l.length) (hn : l[i].length ≤ 1048576) (hsp : sp.length = N) (hok : ∀ m ∈ l[i], (0 ≤ m.f0 ∧ m.f0 < (N : Int)) ∧ (0 ≤ m.f1 ∧ m.f1 < (N : Int))) (V : List Int) :
    ∀ (d j : Nat) (sn : List Int × List Int), l[i].length - j = d → j ≤ l[i].length → sn.1.length = N → sn.2.length = N →
      Ev (fun k => impl_Finish.l0 k sp (runF sp sn (l[i].drop j)).2 l (l.length : Int) ((i + 1 : Nat) : Int)) V →
      Ev (fun k => impl_Finish.l1 k sp sn.1 sn.2 l (l.length : Int) (i : Int) l[i] (l[i].length : Int) (j : Int)) V := by
  intro d
  induction d with
  | zero =>
    intro j sn hd hj h1 h2 hv
    refine Ev.succ ?_
    simp only [impl_Finish.l1]
    rw [up i hi (by omega)]
    refine Ev.neg (by omega) ?_
    rw [List.drop_eq_nil_of_le (by omega)] at hv
    exact hv
  | succ d ih =>
    intro j sn hd hj h1 h2 hv
    refine Ev.succ ?_
    simp only [impl_Finish.l1]
    have hlt : j < l[i].length := by omega
    have hm := hok _ (List.getElem_mem hlt)
    have hs := stepF_len sp sn l[i][j]
    have nx := ih (j + 1) (stepF sp sn l[i][j]) (by omega) (by omega) (by omega) (by omega) (by
      rw [drop_at hlt] at hv
      exact hv)
    refine Ev.pos (by omega) (Ev.pos (by omega) (Ev.pos (by omega) ?_))
    rw [atS hlt, up j hlt (by omega)]
    refine Ev.pos (by omega) (Ev.pos (by omega) (Ev.pos (by omega) (Ev.b rfl (Ev.pos (by omega) (Ev.b rfl (Ev.pos (by omega) (Ev.pos (by omega) ?_)))))))
    exact nx
theorem f0_ev (sp : List Int) (l : List (List S92)) (hl : l.length ≤ 1048576) (hr : ∀ r ∈ l, r.length ≤ 1048576) {N : Nat} (hN : N ≤ 64) (hsp : sp.length = N) (hok : ∀ r ∈ l, ∀ m ∈ r, (0 ≤ m.f0 ∧ m.f0 < (N : Int)) ∧ (0 ≤ m.f1 ∧ m.f1 < (N : Int))) :
    ∀ (d i : Nat) (free : List Int), l.length - i = d → i ≤ l.length → free.length = N → Ev (fun k => impl_Finish.l0 k sp free l (l.length : Int) (i : Int)) (doneF sp (l.drop i) free) := by
  intro d
  induction d with
  | zero =>
    intro i free hd hi hf
    refine Ev.succ ?_
    simp only [impl_Finish.l0]
    refine Ev.neg (by omega) (Ev.some ?_)
    rw [List.drop_eq_nil_of_le (by omega)]
    rfl
  | succ d ih =>
    intro i free hd hi hf
    refine Ev.succ ?_
    simp only [impl_Finish.l0]
    have hlt : i < l.length := by omega
    have hri := hr _ (List.getElem_mem hlt)
    have cl : slices_Clone_int_int.f free = some free := by
      unfold slices_Clone_int_int.f
      rw [if_pos (by omega)]
    refine Ev.pos (by omega) (Ev.pos (by omega) (Ev.pos (by omega) (Ev.b cl (Ev.b cl ?_))))
    rw [atSS hlt]
    refine f1_ev sp l hl hlt hri hsp (hok _ (List.getElem_mem hlt)) _ l[i].length 0 (free, free) (by omega) (by omega) hf hf ?_
    rw [drop_at hlt]
    exact ih (i + 1) (roundF sp free l[i]) (by omega) (by omega) (by rw [roundF_len]; exact hf)
theorem g2_ev (sp : List Int) (l : List (List S92)) (hl : l.length ≤ 1048576) {N i : Nat} (hi : i < l.length) (hn : l[i].length ≤ 1048576) (hsp : sp.length = N) (hok : ∀ m ∈ l[i], (0 ≤ m.f0 ∧ m.f0 < (N : Int)) ∧ (0 ≤ m.f1 ∧ m.f1 < (N : Int))) (V : List Int) :
    ∀ (d j : Nat) (sn : List Int × List Int), l[i].length - j = d → j ≤ l[i].length → sn.1.length = N → sn.2.length = N →
      Ev (fun k => spec_Finish.l1 k l sp (runF sp sn (l[i].drop j)).2 ((i + 1 : Nat) : Int)) V →
      Ev (fun k => spec_Finish.l2 k l sp (i : Int) sn.1 sn.2 (j : Int)) V := by
  intro d
  induction d with
  | zero =>
    intro j sn hd hj h1 h2 hv
    refine Ev.succ ?_
    simp only [spec_Finish.l2]
    rw [atSS hi, up i hi (by omega)]
    refine Ev.pos (by omega) (Ev.pos (by omega) (Ev.neg (by omega) ?_))
    rw [List.drop_eq_nil_of_le (by omega)] at hv
    exact hv
  | succ d ih =>
    intro j sn hd hj h1 h2 hv
    refine Ev.succ ?_
    simp only [spec_Finish.l2]
    have hlt : j < l[i].length := by omega
    have hm := hok _ (List.getElem_mem hlt)
    have hs := stepF_len sp sn l[i][j]
    have nx := ih (j + 1) (stepF sp sn l[i][j]) (by omega) (by omega) (by omega) (by omega) (by
      rw [drop_at hlt] at hv
      exact hv)
    rw [atSS hi, atS hlt, up j hlt (by omega)]
    obtain ⟨a, ha⟩ : ∃ a : Nat, l[i][j].f0 = a := ⟨l[i][j].f0.toNat, by omega⟩
    obtain ⟨b, hb⟩ : ∃ b : Nat, l[i][j].f1 = b := ⟨l[i][j].f1.toNat, by omega⟩
    unfold stepF at nx
    rw [ha, hb] at nx ⊢
    simp only [Int.toNat_natCast] at nx ⊢
    obtain ⟨y, hy⟩ : ∃ y, y = wrap64 (rd sn.1 (a : Int) + rd sp (a : Int)) := ⟨_, rfl⟩
    rw [← hy] at nx ⊢
    have hra : rd (sn.1.set a y) (a : Int) = y := rd_set_same (by omega) _
    rw [hra] at nx
    have e0 : ∀ (s : List Int) (q : Nat), q < s.length → rd s (q : Int) < y → s.set q (mx (rd s (q : Int)) y) = s.set q y := fun s q hq h => by unfold mx; rw [if_pos h]
    have e1 : ∀ (s : List Int) (q : Nat), q < s.length → ¬ rd s (q : Int) < y → s.set q (mx (rd s (q : Int)) y) = s := fun s q hq h => by unfold mx; rw [if_neg h, set_rd hq]
    refine Ev.pos (by omega) (Ev.pos (by omega) (Ev.pos (by omega) (Ev.pos (by omega) (Ev.pos (by omega) (Ev.pos (by omega) (Ev.pos (by omega) (Ev.b rfl ?_)))))))
    simp only [hra]
    refine Ev.pos (by omega) (Ev.ite (fun c1 => Ev.b rfl (Ev.pos (by omega) (Ev.pos (by omega) (Ev.ite (fun c2 => ?_) (fun c2 => ?_))))) (fun c1 => Ev.pos (by omega) (Ev.pos (by omega) (Ev.ite (fun c2 => ?_) (fun c2 => ?_)))))
    · rw [e0 sn.2 a (by omega) c1, e0 _ b (by rw [List.length_set]; omega) c2] at nx
      exact nx
    · rw [e0 sn.2 a (by omega) c1, e1 _ b (by rw [List.length_set]; omega) c2] at nx
      exact nx
    · rw [e1 sn.2 a (by omega) c1, e0 _ b (by omega) c2] at nx
      exact nx
    · rw [e1 sn.2 a (by omega) c1, e1 _ b (by omega) c2] at nx
      exact nx
theorem l3_ev' (l : List Int) (h : l.length ≤ 64) : spec_l3Ints.f l = some l := by
  unfold spec_l3Ints.f
  simp
  omega
theorem g1_ev (sp : List Int) (l : List (List S92)) (hl : l.length ≤ 1048576) (hr : ∀ r ∈ l, r.length ≤ 1048576) {N : Nat} (hN : N ≤ 64) (hsp : sp.length = N) (hok : ∀ r ∈ l, ∀ m ∈ r, (0 ≤ m.f0 ∧ m.f0 < (N : Int)) ∧ (0 ≤ m.f1 ∧ m.f1 < (N : Int))) :
    ∀ (d i : Nat) (free : List Int), l.length - i = d → i ≤ l.length → free.length = N → Ev (fun k => spec_Finish.l1 k l sp free (i : Int)) (doneF sp (l.drop i) free) := by
  intro d
  induction d with
  | zero =>
    intro i free hd hi hf
    refine Ev.succ ?_
    simp only [spec_Finish.l1]
    refine Ev.neg (by omega) (Ev.some ?_)
    rw [List.drop_eq_nil_of_le (by omega)]
    rfl
  | succ d ih =>
    intro i free hd hi hf
    refine Ev.succ ?_
    simp only [spec_Finish.l1]
    have hlt : i < l.length := by omega
    have hri := hr _ (List.getElem_mem hlt)
    have cl := l3_ev' free (by omega)
    refine Ev.pos (by omega) (Ev.b cl (Ev.b cl ?_))
    refine g2_ev sp l hl hlt hri hsp (hok _ (List.getElem_mem hlt)) _ l[i].length 0 (free, free) (by omega) (by omega) hf hf ?_
    rw [drop_at hlt]
    exact ih (i + 1) (roundF sp free l[i]) (by omega) (by omega) (by rw [roundF_len]; exact hf)
def spB (sp : List Int) (i : Nat) : Bool := decide (1 ≤ rd sp (i : Int)) && decide (rd sp (i : Int) ≤ 1000)
theorem g0_ev (sp : List Int) (l : List (List S92)) {N : Nat} (hN : N ≤ 64) (hsp : sp.length = N) (V : List Int) (hv : Ev (fun k => spec_Finish.l1 k l sp (List.replicate N 0) 0) V) :
    ∀ (d i : Nat), N - i = d → i ≤ N → Ev (fun k => spec_Finish.l0 k l (N : Int) sp (i : Int)) (if allUp (spB sp) d i = true then V else []) := by
  intro d
  induction d with
  | zero =>
    intro i hd hi
    refine Ev.succ ?_
    simp only [spec_Finish.l0]
    refine Ev.neg (by omega) (Ev.pos (by omega) (Ev.pos (by omega) ?_))
    simpa [allUp] using hv
  | succ d ih =>
    intro i hd hi
    refine Ev.succ ?_
    simp only [spec_Finish.l0, l5In_f, Option.bind_some]
    rw [up i (show i < N by omega) (by omega)]
    refine Ev.pos (by omega) (Ev.pos (by omega) (Ev.pos (by omega) ?_))
    have nx := ih (i + 1) (by omega) (by omega)
    rw [show (decide (1 ≤ rd sp (i : Int)) && decide (rd sp (i : Int) ≤ 1000)) = spB sp i from rfl]
    refine Ev.ite (fun h => ?_) (fun h => Ev.some ?_)
    · rw [show allUp (spB sp) (d + 1) i = allUp (spB sp) d (i + 1) by simp [allUp, h]]
      exact nx
    · rw [show allUp (spB sp) (d + 1) i = false by simp [allUp, h]]
      rfl
theorem aw_ev (sp : List Int) (hn : sp.length ≤ 1048576) : ∀ (d i : Nat), sp.length - i = d → i ≤ sp.length → Ev (fun k => impl_allWithin.l0 k 1 1000 sp (sp.length : Int) (i : Int)) (allUp (spB sp) d i) := by
  intro d
  induction d with
  | zero =>
    intro i hd hi
    refine Ev.succ ?_
    simp only [impl_allWithin.l0]
    exact Ev.neg (by omega) (Ev.some rfl)
  | succ d ih =>
    intro i hd hi
    refine Ev.succ ?_
    simp only [impl_allWithin.l0, within_f, Option.bind_some]
    rw [up i (show i < sp.length by omega) (by omega)]
    refine Ev.pos (by omega) (Ev.pos (by omega) (Ev.pos (by omega) ?_))
    simp only [allUp]
    rw [show (decide (1 ≤ rd sp (i : Int)) && decide (rd sp (i : Int) ≤ 1000)) = spB sp i from rfl]
    cases spB sp i with
    | false => exact Ev.neg (by simp) (Ev.some rfl)
    | true => exact Ev.pos rfl (ih (i + 1) (by omega) (by omega))
theorem finish_both (l : List (List S92)) (hl : l.length ≤ 1048576) (hr : ∀ r ∈ l, r.length ≤ 1048576) (a b : Int) (sp : List Int) (hs : sp.length ≤ 1048576) : ∃ V : List Int, Ev (fun k => spec_Finish.f k l a b sp) V ∧ Ev (fun k => impl_Finish.f k l a b sp) V ∧ V.length ≤ 64 := by
  obtain ⟨t, e1, e2, ht⟩ := moves_both l hl hr a b
  unfold spec_Finish.f impl_Finish.f
  have j1 : Ev (fun k => spec_Finish.j0 k l a sp true) [] := by
    refine Ev.succ ?_
    simp only [spec_Finish.j0]
    exact Ev.pos trivial (Ev.some rfl)
  have j2 : Ev (fun k => impl_Finish.j0 k l a sp true) [] := by
    refine Ev.succ ?_
    simp only [impl_Finish.j0]
    exact Ev.pos trivial (Ev.some rfl)
  cases t with
  | false => exact ⟨[], Ev.bind e1 (Ev.neg (by simp) j1), Ev.bind e2 (Ev.neg (by simp) j2), by simp⟩
  | true =>
    obtain ⟨h1, h2, h3, hok⟩ := ht rfl
    by_cases hc : (sp.length : Int) = a
    · obtain ⟨N, rfl⟩ : ∃ N : Nat, a = N := ⟨sp.length, hc.symm⟩
      have hsp : sp.length = N := by omega
      have hok' : ∀ r ∈ l, ∀ m ∈ r, (0 ≤ m.f0 ∧ m.f0 < (N : Int)) ∧ (0 ≤ m.f1 ∧ m.f1 < (N : Int)) := fun r hm m hmm => by
        have h := hok r hm m hmm
        have e : wrap64 ((N : Int) - 1) = (N : Int) - 1 := by rw [wrap_id] <;> omega
        simp only [okB, e, Bool.and_eq_true, decide_eq_true_eq] at h
        omega
      have p := f0_ev sp l hl hr (N := N) (by omega) hsp hok' l.length 0 (List.replicate N 0) (by omega) (by omega) (by simp)
      have q := g1_ev sp l hl hr (N := N) (by omega) hsp hok' l.length 0 (List.replicate N 0) (by omega) (by omega) (by simp)
      have q0 := g0_ev sp l (N := N) (by omega) hsp _ q N 0 (by omega) (by omega)
      have w := aw_ev sp hs sp.length 0 (by omega) (by omega)
      rw [hsp] at w
      refine ⟨if allUp (spB sp) N 0 = true then doneF sp (l.drop 0) (List.replicate N 0) else [], Ev.bind e1 (Ev.pos rfl (Ev.succ ?_)), Ev.bind e2 (Ev.pos rfl (Ev.pos hc (Ev.bind (by unfold impl_allWithin.f; rw [hsp]; exact w) (Ev.succ ?_)))), ?_⟩
      · simp only [spec_Finish.j0]
        refine Ev.neg (by simp [hc]) q0
      · simp only [impl_Finish.j0]
        cases allUp (spB sp) N 0 with
        | false => exact Ev.pos rfl (Ev.some (by simp))
        | true =>
          refine Ev.neg (by simp) (Ev.pos (by omega) (Ev.pos (by omega) ?_))
          simpa using p
      · split
        · rw [doneF_len]
          simp
          omega
        · simp
    · refine ⟨[], Ev.bind e1 (Ev.pos rfl ?_), Ev.bind e2 (Ev.pos rfl (Ev.neg hc j2)), by simp⟩
      rw [show ((sp.length : Int) != a) = true from bne_iff_ne.2 hc]
      exact j1
theorem FnExactFinish (l : List (List S117)) (a b : Int) (sp : List Int) {good : List S117 → Prop} (hg : l.length ≤ maxLen ∧ ∀ y ∈ l, y.length ≤ maxLen ∧ good y) : ∃ k, laws_FnExactFinish.f k l a b sp = some true := by
  apply Ev.rounds
  unfold laws_FnExactFinish.f
  refine Ev.ite (fun _ => Ev.some rfl) (fun h0 => ?_)
  obtain ⟨t, ht, hz⟩ := sz_ev l hg.1 (fun r h => (hg.2 r h).1)
  refine Ev.bind ht (Ev.ite (fun _ => Ev.some rfl) (fun h1 => ?_))
  obtain ⟨hl, hr⟩ := hz (by omega)
  have tt := toMM_ev l hl hr
  have ti := toIntS_ev sp (by omega)
  have hl' : (l.map (List.map convM)).length ≤ 1048576 := by simpa using hl
  have hr' : ∀ r ∈ l.map (List.map convM), r.length ≤ 1048576 := fun r h => by
    obtain ⟨y, hy, rfl⟩ := List.mem_map.1 h
    simpa using hr y hy
  obtain ⟨V, e1, e2, hV⟩ := finish_both (l.map (List.map convM)) hl' hr' a b sp (by omega)
  obtain ⟨t2, mk, m0, m1⟩ := mkSS_l (l.map (List.map convM)).length 0 (l.map (List.map convM)) 1 (by omega) (by omega) hl' (fun j _ => by
    rw [List.getD_eq_getElem?_getD]
    cases hj : (l.map (List.map convM))[j]? with
    | none => simp
    | some r => exact hr' r (List.mem_of_getElem? hj)) (by omega) (by omega)
  have ms := mark_ev sp t2 m0 (by omega)
  have mv := mark_ev V 1 (by omega) (by omega)
  have hv := held_ev V.length 1 (by omega) (by omega)
  have qV := eqIntS_ev V (by omega)
  refine Ev.bind tt (Ev.bind ti (Ev.bind e1 (Ev.bind tt (Ev.bind ti (Ev.bind e2 (Ev.bind qV (Ev.pos rfl (Ev.bind tt (Ev.bind (eqMM_ev _ hl' hr') (Ev.pos rfl (Ev.bind ti (Ev.bind (eqIntS_ev sp (by omega)) (Ev.pos rfl (Ev.bind mk (Ev.bind ms (Ev.neg (by simp only; omega) (Ev.bind qV (Ev.pos rfl (Ev.bind mv (Ev.bind hv (Ev.neg (by omega) (Ev.pos rfl (Ev.bind tt (Ev.bind ti (Ev.bind e2 (Ev.bind qV (Ev.pos rfl (Ev.bind hv (Ev.neg (by omega) (Ev.pos rfl (Ev.some rfl)))))))))))))))))))))))))))))))
end Go.Proofs.Ytpoblnigmfbnfac.PureFnExactFinish
