/- Meet: both sides mark the places of one view and ask the other's. -/
import Derived.Test.YtpoblnigmfbnfaaPFnExactMeetx
import Derived.Test.YtpoblnigmfbnfaaBase
import Derived.Test.YtpoblnigmfbnfaaVM
namespace Go.Proofs.Ytpoblnigmfbnfaa.PureFnExactMeet
set_option linter.unusedVariables false
set_option linter.unusedSimpArgs false
open Go.RowKit Go.Proofs.Ytpoblnigmfbnfaa.PFnExactMeet Go.Proofs.YtpoblnigmfbnfaaW.PrintWords Go.Proofs.YtpoblnigmfbnfaaW.PrintLast Go.Proofs.YtpoblnigmfbnfaaW.PrintMore Go.Proofs.Ytpoblnigmfbnfaa.Base Go.Proofs.Ytpoblnigmfbnfaa.VM
/-! ### lists of whole numbers taken over and held against each other -/
theorem toIntS_l (l : List Int) (hn : l.length ≤ 9223372036854775807) : ∀ (d i : Nat), l.length - i = d → i ≤ l.length → Ev (fun k => laws_toIntS.l0 k l (l.take i ++ List.replicate (l.length - i) 0) (i : Int)) l := by
  intro d
  induction d with
  | zero =>
    intro i hd hi
    refine Ev.succ ?_
    simp only [laws_toIntS.l0]
    refine Ev.neg (by omega) (Ev.some ?_)
    rw [hd, List.take_of_length_le (by omega)]
    simp
  | succ d ih =>
    intro i hd hi
    refine Ev.succ ?_
    simp only [laws_toIntS.l0]
    have hlt : i < l.length := by omega
    refine Ev.pos (by omega) (Ev.pos (by omega) (Ev.pos (by simp; omega) ?_))
    rw [rd_at hlt, up i hlt hn, Int.toNat_natCast, set_copy hlt]
    exact ih (i + 1) (by omega) (by omega)
theorem toIntS_ev (l : List Int) (h : l.length ≤ 35184372088832) : Ev (fun k => laws_toIntS.f k l) l := by
  unfold laws_toIntS.f
  refine Ev.pos (by omega) (Ev.pos (by omega) ?_)
  have := toIntS_l l (by omega) l.length 0 (by omega) (by omega)
  simpa using this
theorem eqIntS_l (l : List Int) (hn : l.length ≤ 9223372036854775807) : ∀ (d i : Nat), l.length - i = d → i ≤ l.length → Ev (fun k => laws_eqIntS.l0 k l l (i : Int)) true := by
  intro d
  induction d with
  | zero =>
    intro i hd hi
    refine Ev.succ ?_
    simp only [laws_eqIntS.l0]
    exact Ev.neg (by omega) (Ev.some rfl)
  | succ d ih =>
    intro i hd hi
    refine Ev.succ ?_
    simp only [laws_eqIntS.l0]
    have hlt : i < l.length := by omega
    refine Ev.pos (by omega) (Ev.pos (by omega) (Ev.pos (by omega) (Ev.pos (by trivial) ?_)))
    rw [up i hlt hn]
    exact ih (i + 1) (by omega) (by omega)
theorem eqIntS_ev (l : List Int) (h : l.length ≤ 9223372036854775807) : Ev (fun k => laws_eqIntS.f k l l) true := by
  unfold laws_eqIntS.f
  exact Ev.pos rfl (eqIntS_l l (by omega) l.length 0 (by omega) (by omega))
/-! ### lengths -/
theorem size_l (l : List Int) (hn : l.length ≤ 9223372036854775807) : ∀ (d i : Nat) (n : Int), l.length - i = d → i ≤ l.length → 1 ≤ n → n ≤ 4096 → Ev (fun k => spec_l3Size.l0 k l n (i : Int)) (if runOk n (l.drop i) = true then n * prod (l.drop i) else 0) := by
  intro d
  induction d with
  | zero =>
    intro i n hd hi h0 h1
    refine Ev.succ ?_
    simp only [spec_l3Size.l0]
    refine Ev.neg (by omega) (Ev.some ?_)
    rw [List.drop_eq_nil_of_le (by omega)]
    simp [runOk, prod]
  | succ d ih =>
    intro i n hd hi h0 h1
    have hlt : i < l.length := by omega
    refine Ev.succ ?_
    simp only [spec_l3Size.l0]
    refine Ev.pos (by omega) (Ev.pos (by omega) ?_)
    rw [rd_at hlt, drop_at hlt]
    refine Ev.ite (fun h => Ev.succ ?_) (fun h => Ev.succ ?_)
    · simp only [spec_l3Size.j1]
      refine Ev.pos (by trivial) (Ev.some ?_)
      simp [runOk, h]
    · simp only [spec_l3Size.j1]
      by_cases h2 : 4096 < l[i]
      · refine Ev.pos (by simpa using h2) (Ev.some ?_)
        simp [runOk, h, h2]
      · have p1 : n * l[i] ≤ 4096 * 4096 := Int.mul_le_mul h1 (by omega) (by omega) (by omega)
        have p0 : 1 * 1 ≤ n * l[i] := Int.mul_le_mul h0 (by omega) (by omega) (by omega)
        refine Ev.neg (by simpa using h2) (Ev.pos (by omega) (Ev.pos (by omega) ?_))
        rw [rd_at hlt, wrap_id (by omega : -9223372036854775808 ≤ n * l[i]) (by omega), up i hlt hn]
        refine Ev.ite (fun h3 => Ev.some ?_) (fun h3 => ?_)
        · simp [runOk, h, h2, show 4096 < n * l[i] from h3]
        · have e : runOk n (l[i] :: l.drop (i + 1)) = runOk (n * l[i]) (l.drop (i + 1)) := by
            simp [runOk, h, h2, show ¬ 4096 < n * l[i] from h3]
          rw [e]
          simp only [prod]
          rw [← Int.mul_assoc]
          exact ih (i + 1) _ (by omega) (by omega) (by omega) (by omega)
theorem size_ev (l : List Int) (hn : l.length ≤ 9223372036854775807) : Ev (fun k => spec_l3Size.f k l) (if runOk 1 l = true then prod l else 0) := by
  have := size_l l hn l.length 0 1 (by omega) (by omega) (by omega) (by omega)
  rw [Int.one_mul] at this
  exact this
/-- Lengths that can be. -/
def dimsB (l : List Int) : Bool := decide (l.length ≤ 6) && runOk 1 l
theorem sdims_ev (l : List Int) (hn : l.length ≤ 9223372036854775807) : Ev (fun k => spec_DimsOk.f k l) (dimsB l) := by
  unfold spec_DimsOk.f dimsB
  refine Ev.ite (fun h => Ev.bind (size_ev l hn) (Ev.some ?_)) (fun h => Ev.some ?_)
  · rw [show decide (l.length ≤ 6) = true from decide_eq_true (by omega), Bool.true_and]
    cases hr : runOk 1 l with
    | true =>
      have := prod_pos hr
      simp
      omega
    | false => simp
  · rw [show decide (l.length ≤ 6) = false from decide_eq_false (by omega)]
    rfl
theorem idims_l (l : List Int) (hn : l.length ≤ 9223372036854775807) : ∀ (d i : Nat) (n : Int), l.length - i = d → i ≤ l.length → 1 ≤ n → n ≤ 4096 → Ev (fun k => impl_DimsOk.l0 k l n l (l.length : Int) (i : Int)) (decide (l.length ≤ 6) && runOk n (l.drop i)) := by
  intro d
  induction d with
  | zero =>
    intro i n hd hi h0 h1
    refine Ev.succ ?_
    simp only [impl_DimsOk.l0]
    refine Ev.neg (by omega) (Ev.some ?_)
    rw [List.drop_eq_nil_of_le (by omega)]
    simp only [runOk, Bool.and_true]
    exact decide_eq_decide.2 (by omega)
  | succ d ih =>
    intro i n hd hi h0 h1
    have hlt : i < l.length := by omega
    refine Ev.succ ?_
    simp only [impl_DimsOk.l0]
    refine Ev.pos (by omega) (Ev.pos (by omega) (Ev.pos (by omega) ?_))
    rw [rd_at hlt, drop_at hlt]
    refine Ev.ite (fun h => Ev.succ ?_) (fun h => Ev.succ ?_)
    · simp only [impl_DimsOk.j1]
      refine Ev.pos (by trivial) (Ev.some ?_)
      simp [runOk, h]
    · simp only [impl_DimsOk.j1]
      by_cases h2 : 4096 < l[i]
      · refine Ev.pos (by simpa using h2) (Ev.some ?_)
        simp [runOk, h, h2]
      · have p1 : n * l[i] ≤ 4096 * 4096 := Int.mul_le_mul h1 (by omega) (by omega) (by omega)
        have p0 : 1 * 1 ≤ n * l[i] := Int.mul_le_mul h0 (by omega) (by omega) (by omega)
        refine Ev.neg (by simpa using h2) ?_
        rw [wrap_id (by omega : -9223372036854775808 ≤ n * l[i]) (by omega), up i hlt hn]
        refine Ev.ite (fun h3 => Ev.some ?_) (fun h3 => ?_)
        · simp [runOk, h, h2, show 4096 < n * l[i] from h3]
        · have e : runOk n (l[i] :: l.drop (i + 1)) = runOk (n * l[i]) (l.drop (i + 1)) := by
            simp [runOk, h, h2, show ¬ 4096 < n * l[i] from h3]
          rw [e]
          exact ih (i + 1) _ (by omega) (by omega) (by omega) (by omega)
theorem idims_ev (l : List Int) (hn : l.length ≤ 9223372036854775807) : Ev (fun k => impl_DimsOk.f k l) (dimsB l) := idims_l l hn l.length 0 1 (by omega) (by omega) (by omega) (by omega)
/-! ### indexes in order, and their places -/
theorem index_l (l : List Int) (hn : l.length ≤ 6) (hd : ∀ d ∈ l, 1 ≤ d) (k0 : Int) (hk : 0 ≤ k0) (hk' : k0 ≤ 9223372036854775807) : ∀ (i : Nat), i ≤ l.length →
    Ev (fun k => spec_l3Index.l0 k l (idxs (l.drop i) k0).2 (List.replicate i 0 ++ (idxs (l.drop i) k0).1) ((i : Int) - 1)) (idxs l k0).1 := by
  intro i
  induction i with
  | zero =>
    intro hi
    refine Ev.succ ?_
    simp only [spec_l3Index.l0]
    refine Ev.neg (by omega) (Ev.some ?_)
    simp
  | succ i ih =>
    intro hi
    have hlt : i < l.length := by omega
    have hdi := hd _ (List.getElem_mem hlt)
    have hnn : 0 ≤ (idxs (l.drop (i + 1)) k0).2 := idxs_nonneg (fun d hm => hd d (List.mem_of_mem_drop hm)) hk
    have hle : (idxs (l.drop (i + 1)) k0).2 ≤ k0 := by
      have o := ord_idxs (ds := l.drop (i + 1)) (fun d hm => hd d (List.mem_of_mem_drop hm)) hk
      obtain ⟨o1, o2⟩ := ord_lt (ds := l.drop (i + 1)) (fun d hm => hd d (List.mem_of_mem_drop hm)) (idxs_in (fun d hm => hd d (List.mem_of_mem_drop hm)) hk)
      have p : (idxs (l.drop (i + 1)) k0).2 * 1 ≤ (idxs (l.drop (i + 1)) k0).2 * prod (l.drop (i + 1)) := Int.mul_le_mul_of_nonneg_left (by omega) hnn
      omega
    have hq : 0 ≤ (idxs (l.drop (i + 1)) k0).2 / l[i] := Int.ediv_nonneg hnn (by omega)
    have hq' : (idxs (l.drop (i + 1)) k0).2 / l[i] ≤ (idxs (l.drop (i + 1)) k0).2 := Int.ediv_le_self _ hnn
    refine Ev.succ ?_
    simp only [spec_l3Index.l0]
    have e1 : ((i + 1 : Nat) : Int) - 1 = (i : Int) := by omega
    rw [e1]
    refine Ev.pos (by omega) (Ev.pos (by omega) (Ev.pos (by omega) ?_))
    rw [rd_at hlt]
    refine Ev.neg (by omega) (Ev.pos (by simp [idxs_len]; omega) ?_)
    rw [wrap_id (by omega : -9223372036854775808 ≤ (i : Int) - 1) (by omega), Int.tdiv_eq_ediv_of_nonneg hnn, Int.tmod_eq_emod_of_nonneg hnn, wrap_id (by omega : -9223372036854775808 ≤ (idxs (l.drop (i + 1)) k0).2 / l[i]) (by omega), Int.toNat_natCast]
    have ih := ih (by omega)
    rw [drop_at hlt] at ih
    simp only [idxs] at ih
    have e2 : (List.replicate (i + 1) (0 : Int) ++ (idxs (l.drop (i + 1)) k0).1).set i ((idxs (l.drop (i + 1)) k0).2 % l[i]) = List.replicate i 0 ++ ((idxs (l.drop (i + 1)) k0).2 % l[i] :: (idxs (l.drop (i + 1)) k0).1) := by
      rw [show List.replicate (i + 1) (0 : Int) = List.replicate i 0 ++ [0] from List.replicate_succ', List.append_assoc, List.set_append_right _ _ (by simp)]
      simp
    rw [e2]
    exact ih
theorem index_ev (l : List Int) (hn : l.length ≤ 6) (hd : ∀ d ∈ l, 1 ≤ d) (k0 : Int) (hk : 0 ≤ k0) (hk' : k0 ≤ 9223372036854775807) : Ev (fun k => spec_l3Index.f k l k0) (idxs l k0).1 := by
  unfold spec_l3Index.f
  refine Ev.pos (by omega) (Ev.pos (by omega) ?_)
  have := index_l l hn hd k0 hk hk' l.length (by omega)
  rw [List.drop_length] at this
  simp only [idxs, List.append_nil] at this
  rw [wrap_id (by omega) (by omega)]
  exact this
theorem place_l (dims ss : List Int) (off base : Int) (xs : List Int) (hl : xs.length ≤ ss.length) (hx : xs.length ≤ 6) (hb : ∀ (i : Nat) (h1 : i < xs.length) (h2 : i < ss.length), -16777216 ≤ xs[i] * ss[i] ∧ xs[i] * ss[i] ≤ 16777216) :
    ∀ (d i : Nat) (p : Int), xs.length - i = d → i ≤ xs.length → -4096 - 16777216 * i ≤ p → p ≤ 4096 + 16777216 * i → Ev (fun k => spec_l3Place.l0 k xs p (i : Int) dims ss off base) (p + dot (xs.drop i) (ss.drop i)) := by
  intro d
  induction d with
  | zero =>
    intro i p hd hi h0 h1
    refine Ev.succ ?_
    simp only [spec_l3Place.l0]
    refine Ev.neg (by omega) (Ev.some ?_)
    rw [List.drop_eq_nil_of_le (by omega)]
    simp [dot]
  | succ d ih =>
    intro i p hd hi h0 h1
    have hlt : i < xs.length := by omega
    have hlt' : i < ss.length := by omega
    have b := hb i hlt hlt'
    refine Ev.succ ?_
    simp only [spec_l3Place.l0]
    refine Ev.pos (by omega) (Ev.pos (by omega) (Ev.pos (by omega) ?_))
    rw [rd_at hlt, rd_at hlt', wrap_id (by omega : -9223372036854775808 ≤ xs[i] * ss[i]) (by omega), wrap_id (by omega : -9223372036854775808 ≤ p + xs[i] * ss[i]) (by omega), up i hlt (by omega), drop_at hlt, drop_at hlt']
    simp only [dot]
    rw [← Int.add_assoc]
    exact ih (i + 1) _ (by omega) (by omega) (by omega) (by omega)
theorem in_bound : ∀ {ds xs : List Int}, (∀ d ∈ ds, d ≤ 4096) → inD ds xs → ∀ (i : Nat) (h : i < xs.length), 0 ≤ xs[i] ∧ xs[i] < 4096
  | [], [], _, _, i, h => by simp at h
  | d :: ds, x :: xs, hd, hi, i, h => by
    cases i with
    | zero =>
      have := hd d List.mem_cons_self
      obtain ⟨h1, h2, _⟩ := hi
      simp
      omega
    | succ i =>
      simp only [List.getElem_cons_succ]
      exact in_bound (fun e he => hd e (List.mem_cons_of_mem _ he)) hi.2.2 i (by simpa using h)
  | [], _ :: _, _, h, _, _ => h.elim
  | _ :: _, [], _, h, _, _ => h.elim
theorem mul_bound {x s : Int} (h0 : 0 ≤ x) (h1 : x < 4096) (h2 : -4096 ≤ s) (h3 : s ≤ 4096) : -16777216 ≤ x * s ∧ x * s ≤ 16777216 := by
  have p1 : x * s ≤ x * 4096 := Int.mul_le_mul_of_nonneg_left h3 h0
  have p2 : x * (-4096) ≤ x * s := Int.mul_le_mul_of_nonneg_left h2 h0
  omega
theorem place_ev (dims ss : List Int) (off base : Int) (xs : List Int) (hin : inD dims xs) (hd : ∀ d ∈ dims, d ≤ 4096) (hl : dims.length ≤ 6) (hls : ss.length = dims.length) (hs : ∀ s ∈ ss, -4096 ≤ s ∧ s ≤ 4096) (h0 : 0 ≤ off) (h1 : off ≤ 4096) : Ev (fun k => spec_l3Place.f k dims ss off base xs) (off + dot xs ss) := by
  have hx := inD_len hin
  have := place_l dims ss off base xs (by omega) (by omega) (fun i a b => by
    have x := in_bound hd hin i a
    have s := hs _ (List.getElem_mem b)
    exact mul_bound x.1 x.2 s.1 s.2) xs.length 0 off (by omega) (by omega) (by omega) (by omega)
  exact this
theorem all_l (dims ss : List Int) (off base : Int) (hr : runOk 1 dims = true) (hl : dims.length ≤ 6) (hls : ss.length = dims.length) (hs : ∀ s ∈ ss, -4096 ≤ s ∧ s ≤ 4096) (h0 : 0 ≤ off) (h1 : off ≤ 4096) :
    ∀ (d i : Nat), (prod dims).toNat - i = d → i ≤ (prod dims).toNat → Ev (fun k => spec_l3All.l0 k ((List.range i).map (plc dims ss off)) (prod dims) (i : Int) dims ss off base) (plcs dims ss off) := by
  have hp := prod_pos hr
  have hp' := run_prod (n := 1) (by omega) (by omega) hr
  intro d
  induction d with
  | zero =>
    intro i hd hi
    refine Ev.succ ?_
    simp only [spec_l3All.l0]
    refine Ev.neg (by omega) (Ev.some ?_)
    rw [show i = (prod dims).toNat by omega]
    rfl
  | succ d ih =>
    intro i hd hi
    refine Ev.succ ?_
    simp only [spec_l3All.l0]
    have ha := run_all hr
    refine Ev.pos (by omega) (Ev.bind (index_ev dims hl (fun e he => (ha e he).1) (i : Int) (by omega) (by omega)) (Ev.bind (place_ev dims ss off base _ (idxs_in (fun e he => (ha e he).1) (by omega)) (fun e he => (ha e he).2) hl hls hs h0 h1) (Ev.pos (by simp; omega) ?_)))
    rw [up i (by omega : i < 4096) (by omega)]
    have := ih (i + 1) (by omega) (by omega)
    rw [List.range_succ, List.map_append] at this
    exact this
theorem all_ev (dims ss : List Int) (off base : Int) (hr : runOk 1 dims = true) (hl : dims.length ≤ 6) (hls : ss.length = dims.length) (hs : ∀ s ∈ ss, -4096 ≤ s ∧ s ≤ 4096) (h0 : 0 ≤ off) (h1 : off ≤ 4096) : Ev (fun k => spec_l3All.f k dims ss off base) (plcs dims ss off) := by
  unfold spec_l3All.f
  have e := size_ev dims (by omega)
  rw [if_pos hr] at e
  exact Ev.bind e (all_l dims ss off base hr hl hls hs h0 h1 (prod dims).toNat 0 (by omega) (by omega))
/-! ### views that can be -/
def strB (ss : List Int) : Bool := ss.all fun s => decide (-4096 ≤ s) && decide (s ≤ 4096)
def viewB (dims ss : List Int) (off base : Int) : Bool :=
  dimsB dims && decide (ss.length = dims.length) && (decide (1 ≤ base) && decide (base ≤ 4096) && decide (0 ≤ off) && decide (off < base)) && (strB ss && decide (0 ≤ off + loS dims ss ∧ off + hiS dims ss < base))
theorem strB_all {ss : List Int} (h : strB ss = true) : ∀ s ∈ ss, -4096 ≤ s ∧ s ≤ 4096 := by
  intro s hs
  have := List.all_eq_true.1 h s hs
  simpa using this
theorem sv1 (dims ss : List Int) (off base : Int) (ps : List Int) (hn : ps.length ≤ 9223372036854775807) : ∀ (d i : Nat), ps.length - i = d → i ≤ ps.length → Ev (fun k => spec_ViewOk.l1 k ps (i : Int) dims ss off base) ((ps.drop i).all fun p => decide (0 ≤ p) && decide (p < base)) := by
  intro d
  induction d with
  | zero =>
    intro i hd hi
    refine Ev.succ ?_
    simp only [spec_ViewOk.l1]
    refine Ev.neg (by omega) (Ev.some ?_)
    rw [List.drop_eq_nil_of_le (by omega)]
    simp
  | succ d ih =>
    intro i hd hi
    have hlt : i < ps.length := by omega
    refine Ev.succ ?_
    simp only [spec_ViewOk.l1]
    refine Ev.pos (by omega) (Ev.pos (by omega) ?_)
    rw [rd_at hlt, drop_at hlt, up i hlt hn]
    refine Ev.ite (fun h => Ev.some ?_) (fun h => Ev.ite (fun h' => Ev.some ?_) (fun h' => ?_))
    · rw [List.all_cons, show decide (0 ≤ ps[i]) = false from decide_eq_false (by omega)]
      rfl
    · rw [List.all_cons, show decide (ps[i] < base) = false from decide_eq_false (by omega), Bool.and_false]
      rfl
    · rw [List.all_cons, show decide (0 ≤ ps[i]) = true from decide_eq_true (by omega), show decide (ps[i] < base) = true from decide_eq_true (by omega), Bool.true_and, Bool.true_and]
      exact ih (i + 1) (by omega) (by omega)
theorem all_dec (ps : List Int) (base : Int) (q : Prop) [Decidable q] (h : (∀ p ∈ ps, 0 ≤ p ∧ p < base) ↔ q) : (ps.all fun p => decide (0 ≤ p) && decide (p < base)) = decide q := by
  rw [Bool.eq_iff_iff, decide_eq_true_eq, ← h, List.all_eq_true]
  simp only [Bool.and_eq_true, decide_eq_true_eq]
theorem sv0 (dims ss : List Int) (off base : Int) (hr : runOk 1 dims = true) (hl : dims.length ≤ 6) (hls : ss.length = dims.length) (h0 : 0 ≤ off) (h1 : off ≤ 4096) : ∀ (d i : Nat), ss.length - i = d → i ≤ ss.length → (∀ (j : Nat) (h : j < ss.length), j < i → -4096 ≤ ss[j] ∧ ss[j] ≤ 4096) →
    Ev (fun k => spec_ViewOk.l0 k (i : Int) dims ss off base) (strB (ss.drop i) && decide (0 ≤ off + loS dims ss ∧ off + hiS dims ss < base)) := by
  intro d
  induction d with
  | zero =>
    intro i hd hi hs
    refine Ev.succ ?_
    simp only [spec_ViewOk.l0]
    have hp' := run_prod (n := 1) (by omega) (by omega) hr
    have hss : ∀ s ∈ ss, -4096 ≤ s ∧ s ≤ 4096 := fun s hm => by
      obtain ⟨j, hj, rfl⟩ := List.getElem_of_mem hm
      exact hs j hj (by omega)
    refine Ev.neg (by omega) (Ev.bind (all_ev dims ss off base hr hl hls hss h0 h1) ?_)
    have e := sv1 dims ss off base (plcs dims ss off) (by simp [plcs]; omega) _ 0 rfl (by omega)
    rw [List.drop_zero] at e
    rw [List.drop_eq_nil_of_le (by omega)]
    have := all_places dims ss off base (fun d hm => (run_all hr d hm).1)
    rw [all_dec _ _ _ this] at e
    exact e
  | succ d ih =>
    intro i hd hi hs
    have hlt : i < ss.length := by omega
    refine Ev.succ ?_
    simp only [spec_ViewOk.l0]
    refine Ev.pos (by omega) (Ev.pos (by omega) ?_)
    rw [rd_at hlt, drop_at hlt, up i hlt (by omega)]
    refine Ev.ite (fun h => Ev.some ?_) (fun h => Ev.ite (fun h' => Ev.some ?_) (fun h' => ?_))
    · simp only [strB, List.all_cons]
      rw [show decide (-4096 ≤ ss[i]) = false from decide_eq_false (by omega)]
      rfl
    · simp only [strB, List.all_cons]
      rw [show decide (ss[i] ≤ 4096) = false from decide_eq_false (by omega), Bool.and_false]
      rfl
    · have e : strB (ss[i] :: ss.drop (i + 1)) = strB (ss.drop (i + 1)) := by
        simp only [strB, List.all_cons]
        rw [show decide (-4096 ≤ ss[i]) = true from decide_eq_true (by omega), show decide (ss[i] ≤ 4096) = true from decide_eq_true (by omega)]
        rfl
      rw [e]
      refine ih (i + 1) (by omega) (by omega) (fun j hj hji => ?_)
      by_cases hji' : j < i
      · exact hs j hj hji'
      · obtain rfl : j = i := by omega
        omega
theorem iv0 (dims ss : List Int) (off base : Int) (hr : runOk 1 dims = true) (hl : dims.length ≤ 6) (hls : ss.length = dims.length) : ∀ (d i : Nat) (lo hi : Int), ss.length - i = d → i ≤ ss.length → -4096 - 16777216 * i ≤ lo → lo ≤ 4096 + 16777216 * i → -4096 - 16777216 * i ≤ hi → hi ≤ 4096 + 16777216 * i →
    Ev (fun k => impl_ViewOk.l0 k lo hi ss (ss.length : Int) (i : Int) dims ss off base) (strB (ss.drop i) && decide (0 ≤ lo + loS (dims.drop i) (ss.drop i) ∧ hi + hiS (dims.drop i) (ss.drop i) < base)) := by
  intro d
  induction d with
  | zero =>
    intro i lo hi hd hi' l1 l2 h1 h2
    refine Ev.succ ?_
    simp only [impl_ViewOk.l0]
    refine Ev.neg (by omega) ?_
    rw [show ss.drop i = [] from List.drop_eq_nil_of_le (by omega), show dims.drop i = [] from List.drop_eq_nil_of_le (by omega)]
    simp only [loS, hiS, strB, List.all_nil, Bool.true_and, Int.add_zero]
    refine Ev.ite (fun h => Ev.some ?_) (fun h => Ev.some ?_)
    · exact decide_eq_decide.2 (by omega)
    · exact (decide_eq_false (by omega)).symm
  | succ d ih =>
    intro i lo hi hd hi' l1 l2 h1 h2
    have hlt : i < ss.length := by omega
    have hlt' : i < dims.length := by omega
    refine Ev.succ ?_
    simp only [impl_ViewOk.l0]
    refine Ev.pos (by omega) (Ev.pos (by omega) (Ev.pos (by omega) ?_))
    rw [rd_at hlt, rd_at hlt', drop_at hlt, drop_at hlt', up i hlt (by omega)]
    refine Ev.ite (fun h => Ev.some ?_) (fun h => Ev.ite (fun h' => Ev.some ?_) (fun h' => Ev.pos (by omega) ?_))
    · simp only [strB, List.all_cons]
      rw [show decide (-4096 ≤ ss[i]) = false from decide_eq_false (by omega)]
      rfl
    · simp only [strB, List.all_cons]
      rw [show decide (ss[i] ≤ 4096) = false from decide_eq_false (by omega), Bool.and_false]
      rfl
    · have e : strB (ss[i] :: ss.drop (i + 1)) = strB (ss.drop (i + 1)) := by
        simp only [strB, List.all_cons]
        rw [show decide (-4096 ≤ ss[i]) = true from decide_eq_true (by omega), show decide (ss[i] ≤ 4096) = true from decide_eq_true (by omega)]
        rfl
      have hdi := run_all hr _ (List.getElem_mem hlt')
      have b := mul_bound (x := dims[i] - 1) (s := ss[i]) (by omega) (by omega) (by omega) (by omega)
      rw [Int.mul_comm] at b
      have c1 : -16777216 ≤ mn 0 (ss[i] * (dims[i] - 1)) ∧ mn 0 (ss[i] * (dims[i] - 1)) ≤ 16777216 := by
        unfold mn
        split <;> omega
      have c2 : -16777216 ≤ mx 0 (ss[i] * (dims[i] - 1)) ∧ mx 0 (ss[i] * (dims[i] - 1)) ≤ 16777216 := by
        unfold mx
        split <;> omega
      rw [e, wrap_id (by omega : -9223372036854775808 ≤ dims[i] - 1) (by omega), wrap_id (by omega : -9223372036854775808 ≤ ss[i] * (dims[i] - 1)) (by omega), wrap_id (by omega : -9223372036854775808 ≤ lo + mn 0 (ss[i] * (dims[i] - 1))) (by omega), wrap_id (by omega : -9223372036854775808 ≤ hi + mx 0 (ss[i] * (dims[i] - 1))) (by omega)]
      simp only [loS, hiS, ← Int.add_assoc]
      exact ih (i + 1) _ _ (by omega) (by omega) (by omega) (by omega) (by omega) (by omega)
theorem view_ev (dims ss : List Int) (off base : Int) (h1 : dims.length ≤ 9223372036854775807) (h2 : ss.length ≤ 9223372036854775807) : Ev (fun k => spec_ViewOk.f k dims ss off base) (viewB dims ss off base) ∧ Ev (fun k => impl_ViewOk.f k dims ss off base) (viewB dims ss off base) := by
  have js : Ev (fun k => spec_ViewOk.j0 k true dims ss off base) false := Ev.succ (by simp only [spec_ViewOk.j0]; exact Ev.pos (by trivial) (Ev.some rfl))
  have ji : Ev (fun k => impl_ViewOk.j0 k true dims ss off base) false := Ev.succ (by simp only [impl_ViewOk.j0]; exact Ev.pos (by trivial) (Ev.some rfl))
  have d1 := sdims_ev dims h1
  have d2 := idims_ev dims h1
  unfold spec_ViewOk.f impl_ViewOk.f viewB
  cases hB : dimsB dims with
  | false =>
    rw [hB] at d1 d2
    exact ⟨Ev.bind d1 (Ev.neg (by simp) js), Ev.bind d2 (Ev.neg (by simp) ji)⟩
  | true =>
    rw [hB] at d1 d2
    by_cases hl : ss.length = dims.length
    · rw [show decide (ss.length = dims.length) = true from decide_eq_true hl]
      by_cases c1 : base < 1
      · rw [show decide (1 ≤ base) = false from decide_eq_false (by omega)]
        exact ⟨Ev.bind d1 (Ev.pos (by trivial) (Ev.pos (by omega) (Ev.pos c1 js))), Ev.bind d2 (Ev.pos (by trivial) (Ev.pos (by omega) (Ev.pos c1 ji)))⟩
      · rw [show decide (1 ≤ base) = true from decide_eq_true (by omega)]
        by_cases c2 : base > 4096
        · rw [show decide (base ≤ 4096) = false from decide_eq_false (by omega)]
          exact ⟨Ev.bind d1 (Ev.pos (by trivial) (Ev.pos (by omega) (Ev.neg c1 (Ev.pos c2 js)))), Ev.bind d2 (Ev.pos (by trivial) (Ev.pos (by omega) (Ev.neg c1 (Ev.pos c2 ji))))⟩
        · rw [show decide (base ≤ 4096) = true from decide_eq_true (by omega)]
          by_cases c3 : off < 0
          · rw [show decide (0 ≤ off) = false from decide_eq_false (by omega)]
            exact ⟨Ev.bind d1 (Ev.pos (by trivial) (Ev.pos (by omega) (Ev.neg c1 (Ev.neg c2 (Ev.pos c3 js))))), Ev.bind d2 (Ev.pos (by trivial) (Ev.pos (by omega) (Ev.neg c1 (Ev.neg c2 (Ev.pos c3 ji)))))⟩
          · rw [show decide (0 ≤ off) = true from decide_eq_true (by omega)]
            by_cases c4 : off ≥ base
            · rw [show decide (off < base) = false from decide_eq_false (by omega), show decide (off ≥ base) = true from decide_eq_true c4]
              exact ⟨Ev.bind d1 (Ev.pos (by trivial) (Ev.pos (by omega) (Ev.neg c1 (Ev.neg c2 (Ev.neg c3 js))))), Ev.bind d2 (Ev.pos (by trivial) (Ev.pos (by omega) (Ev.neg c1 (Ev.neg c2 (Ev.neg c3 ji)))))⟩
            · rw [show decide (off < base) = true from decide_eq_true (by omega), show decide (off ≥ base) = false from decide_eq_false c4]
              have hB' := hB
              unfold dimsB at hB'
              simp only [Bool.and_eq_true, decide_eq_true_eq] at hB'
              obtain ⟨hl6, hr⟩ := hB'
              have s := sv0 dims ss off base hr hl6 hl (by omega) (by omega) ss.length 0 (by omega) (by omega) (fun j _ hj => by omega)
              have i := iv0 dims ss off base hr hl6 hl ss.length 0 off off (by omega) (by omega) (by omega) (by omega) (by omega) (by omega)
              refine ⟨Ev.bind d1 (Ev.pos (by trivial) (Ev.pos (by omega) (Ev.neg c1 (Ev.neg c2 (Ev.neg c3 (Ev.succ ?_)))))), Ev.bind d2 (Ev.pos (by trivial) (Ev.pos (by omega) (Ev.neg c1 (Ev.neg c2 (Ev.neg c3 (Ev.succ ?_))))))⟩
              · simp only [spec_ViewOk.j0]
                exact Ev.neg (by simp) s
              · simp only [impl_ViewOk.j0]
                exact Ev.neg (by simp) i
    · rw [show decide (ss.length = dims.length) = false from decide_eq_false hl]
      exact ⟨Ev.bind d1 (Ev.pos (by trivial) (Ev.neg (by omega) js)), Ev.bind d2 (Ev.pos (by trivial) (Ev.neg (by omega) ji))⟩
/-- What a view that can be is. -/
theorem viewB_true {dims ss : List Int} {off base : Int} (h : viewB dims ss off base = true) :
    dims.length ≤ 6 ∧ runOk 1 dims = true ∧ ss.length = dims.length ∧ 1 ≤ base ∧ base ≤ 4096 ∧ 0 ≤ off ∧ off < base ∧ (∀ s ∈ ss, -4096 ≤ s ∧ s ≤ 4096) ∧ 0 ≤ off + loS dims ss ∧ off + hiS dims ss < base := by
  unfold viewB dimsB at h
  simp only [Bool.and_eq_true, decide_eq_true_eq] at h
  obtain ⟨⟨⟨⟨a, b⟩, c⟩, ⟨⟨d, e⟩, f⟩, g⟩, i, j, l⟩ := h
  exact ⟨a, b, c, d, e, f, g, strB_all i, j, l⟩
/-! ### the iterator over places, by the program: it gives all of them in order -/
/-- One step of the index, the last axis first. -/
def incr : List Int → List Int → List Int → Int → Bool × List Int × Int
  | d :: ds, s :: ss, x :: xs, a => if (incr ds ss xs a).1 = true then (true, x :: (incr ds ss xs a).2.1, (incr ds ss xs a).2.2) else if x + 1 < d then (true, (x + 1) :: (incr ds ss xs a).2.1, (incr ds ss xs a).2.2 + s) else (false, 0 :: (incr ds ss xs a).2.1, (incr ds ss xs a).2.2 + s - s * d)
  | _, _, _, a => (false, [], a)
theorem incr_bound : ∀ (ds ss xs : List Int) (a : Int), (∀ d ∈ ds, 1 ≤ d ∧ d ≤ 4096) → (∀ s ∈ ss, -4096 ≤ s ∧ s ≤ 4096) → a - 16781312 * ds.length ≤ (incr ds ss xs a).2.2 ∧ (incr ds ss xs a).2.2 ≤ a + 16781312 * ds.length
  | [], _, _, a, _, _ => by simp [incr]
  | d :: ds, [], _, a, _, _ => by simp only [incr, List.length_cons]; omega
  | d :: ds, s :: ss, [], a, _, _ => by simp only [incr, List.length_cons]; omega
  | d :: ds, s :: ss, x :: xs, a, h1, h2 => by
    have ih := incr_bound ds ss xs a (fun y hy => h1 y (List.mem_cons_of_mem _ hy)) (fun y hy => h2 y (List.mem_cons_of_mem _ hy))
    have hd := h1 d List.mem_cons_self
    have hs := h2 s List.mem_cons_self
    have p1 : s * d ≤ 4096 * 4096 := by
      have q1 : s * d ≤ 4096 * d := Int.mul_le_mul_of_nonneg_right hs.2 (by omega)
      omega
    have p2 : -4096 * 4096 ≤ s * d := by
      have q1 : -4096 * d ≤ s * d := Int.mul_le_mul_of_nonneg_right hs.1 (by omega)
      omega
    simp only [incr, List.length_cons]
    split
    · simp only
      omega
    · split
      · simp only
        omega
      · simp only
        omega
theorem incr_len : ∀ (ds ss xs : List Int) (a : Int), ss.length = ds.length → xs.length = ds.length → (incr ds ss xs a).2.1.length = ds.length
  | [], _, _, a, _, _ => by simp [incr]
  | d :: ds, [], _, a, h, _ => by simp at h
  | d :: ds, s :: ss, [], a, _, h => by simp at h
  | d :: ds, s :: ss, x :: xs, a, h1, h2 => by
    have ih := incr_len ds ss xs a (by simpa using h1) (by simpa using h2)
    simp only [incr]
    split
    · simp [ih]
    · split <;> simp [ih]
theorem spot_suffix : ∀ (ds ss xs P Ps Px : List Int) (a : Int), (∀ d ∈ ds, 1 ≤ d ∧ d ≤ 4096) → (∀ s ∈ ss, -4096 ≤ s ∧ s ≤ 4096) → ss.length = ds.length → inD ds xs → Ps.length = P.length → Px.length = P.length → -1000000000000 ≤ a - 16781312 * ds.length → a + 16781312 * ds.length ≤ 1000000000000 →
    spotIn (P ++ ds) (Ps ++ ss) (P.length + ds.length) (Px ++ xs) a = (if (incr ds ss xs a).1 = true then (true, Px ++ (incr ds ss xs a).2.1, (incr ds ss xs a).2.2) else spotIn (P ++ ds) (Ps ++ ss) P.length (Px ++ (incr ds ss xs a).2.1) (incr ds ss xs a).2.2)
  | [], ss, xs, P, Ps, Px, a, _, _, h3, h4, _, _, _, _ => by
    obtain rfl : ss = [] := List.length_eq_zero_iff.1 h3
    obtain rfl : xs = [] := List.length_eq_zero_iff.1 (by have := inD_len h4; simpa using this)
    simp [incr]
  | d :: ds, [], xs, P, Ps, Px, a, _, _, h3, _, _, _, _, _ => by simp at h3
  | d :: ds, s :: ss, [], P, Ps, Px, a, _, _, _, h4, _, _, _, _ => by simp [inD] at h4
  | d :: ds, s :: ss, x :: xs, P, Ps, Px, a, h1, h2, h3, h4, h5, h6, h7, h8 => by
    have h1' : ∀ y ∈ ds, 1 ≤ y ∧ y ≤ 4096 := fun y hy => h1 y (List.mem_cons_of_mem _ hy)
    have h2' : ∀ y ∈ ss, -4096 ≤ y ∧ y ≤ 4096 := fun y hy => h2 y (List.mem_cons_of_mem _ hy)
    have hd := h1 d List.mem_cons_self
    have hs := h2 s List.mem_cons_self
    simp only [inD] at h4
    rw [List.length_cons] at h7 h8
    have ih := spot_suffix ds ss xs (P ++ [d]) (Ps ++ [s]) (Px ++ [x]) a h1' h2' (by simpa using h3) h4.2.2 (by simp [h5]) (by simp [h6]) (by omega) (by omega)
    have hb := incr_bound ds ss xs a h1' h2'
    have hlen := incr_len ds ss xs a (by simpa using h3) (inD_len h4.2.2)
    have ea : ∀ (A B : List Int) (y : Int), A ++ [y] ++ B = A ++ y :: B := fun A B y => by simp
    rw [ea, ea, ea, ea] at ih
    have el : (P ++ [d]).length + ds.length = P.length + (d :: ds).length := by simp; omega
    rw [el] at ih
    rw [ih]
    obtain ⟨ys, hys⟩ : ∃ ys, ys = (incr ds ss xs a).2.1 := ⟨_, rfl⟩
    obtain ⟨c, hc⟩ : ∃ c, c = (incr ds ss xs a).2.2 := ⟨_, rfl⟩
    by_cases hi : (incr ds ss xs a).1 = true
    · have E : incr (d :: ds) (s :: ss) (x :: xs) a = (true, x :: (incr ds ss xs a).2.1, (incr ds ss xs a).2.2) := by
        simp only [incr]
        rw [if_pos hi]
      rw [if_pos hi, E, if_pos rfl]
    · have E : incr (d :: ds) (s :: ss) (x :: xs) a = if x + 1 < d then (true, (x + 1) :: ys, c + s) else (false, 0 :: ys, c + s - s * d) := by
        simp only [incr]
        rw [if_neg hi, ← hys, ← hc]
      rw [if_neg hi, E, ← hys, ← hc]
      rw [← hc] at hb
      have ep : (P ++ [d]).length = P.length + 1 := by simp
      rw [ep]
      simp only [spotIn]
      have r1 : rd (Px ++ x :: ys) ((P.length : Nat) : Int) = x := by
        rw [rd_at (by simp; omega), List.getElem_append_right (by omega)]
        simp [h6]
      have r2 : rd (P ++ d :: ds) ((P.length : Nat) : Int) = d := by
        rw [rd_at (by simp), List.getElem_append_right (by omega)]
        simp
      have r3 : rd (Ps ++ s :: ss) ((P.length : Nat) : Int) = s := by
        rw [rd_at (by simp; omega), List.getElem_append_right (by omega)]
        simp [h5]
      have st : ∀ y : Int, (Px ++ x :: ys).set P.length y = Px ++ y :: ys := fun y => by
        rw [List.set_append_right _ _ (by omega), h6, Nat.sub_self, List.set_cons_zero]
      have p1 : s * d ≤ 4096 * 4096 := by
        have q1 : s * d ≤ 4096 * d := Int.mul_le_mul_of_nonneg_right hs.2 (by omega)
        omega
      have p2 : -4096 * 4096 ≤ s * d := by
        have q1 : -4096 * d ≤ s * d := Int.mul_le_mul_of_nonneg_right hs.1 (by omega)
        omega
      rw [r1, r2, r3, st, st, wrap_id (n := x + 1) (by omega) (by omega), wrap_id (n := c + s) (by omega) (by omega), wrap_id (n := s * d) (by omega) (by omega), wrap_id (n := c + s - s * d) (by omega) (by omega)]
      by_cases hx : x + 1 < d
      · rw [if_pos hx, if_pos hx, if_pos rfl]
      · rw [if_neg hx, if_neg hx, if_neg (by simp)]
theorem zeros_in : ∀ (ds : List Int), (∀ d ∈ ds, 1 ≤ d) → inD ds (List.replicate ds.length 0) ∧ ord ds (List.replicate ds.length 0) = 0
  | [], _ => by simp [inD, ord]
  | d :: ds, h => by
    have ih := zeros_in ds (fun y hy => h y (List.mem_cons_of_mem _ hy))
    have := h d List.mem_cons_self
    rw [List.length_cons, List.replicate_succ]
    simp only [inD, ord]
    exact ⟨⟨by omega, by omega, ih.1⟩, by rw [ih.2]; omega⟩
theorem dot_zeros : ∀ (n : Nat) (ss : List Int), dot (List.replicate n 0) ss = 0
  | 0, _ => by simp [dot]
  | n + 1, [] => by simp [List.replicate_succ, dot]
  | n + 1, s :: ss => by
    rw [List.replicate_succ]
    simp only [dot]
    rw [dot_zeros n ss]
    omega
theorem incr_spec : ∀ (ds ss xs : List Int) (a : Int), (∀ d ∈ ds, 1 ≤ d) → ss.length = ds.length → inD ds xs →
    (∃ ys, incr ds ss xs a = (true, ys, a - dot xs ss + dot ys ss) ∧ inD ds ys ∧ ord ds ys = ord ds xs + 1) ∨ (incr ds ss xs a = (false, List.replicate ds.length 0, a - dot xs ss) ∧ ord ds xs + 1 = prod ds)
  | [], ss, xs, a, _, h2, h3 => by
    obtain rfl : ss = [] := List.length_eq_zero_iff.1 h2
    obtain rfl : xs = [] := List.length_eq_zero_iff.1 (by have := inD_len h3; simpa using this)
    exact .inr (by simp [incr, dot, ord, prod])
  | d :: ds, [], xs, a, _, h2, _ => by simp at h2
  | d :: ds, s :: ss, [], a, _, _, h3 => by simp [inD] at h3
  | d :: ds, s :: ss, x :: xs, a, h1, h2, h3 => by
    have h1' : ∀ y ∈ ds, 1 ≤ y := fun y hy => h1 y (List.mem_cons_of_mem _ hy)
    simp only [inD] at h3
    rcases incr_spec ds ss xs a h1' (by simpa using h2) h3.2.2 with ⟨ys, e1, e2, e3⟩ | ⟨e1, e2⟩
    · refine .inl ⟨x :: ys, ?_, ?_, ?_⟩
      · simp only [incr]
        rw [e1, if_pos rfl]
        simp only [dot, Prod.mk.injEq, true_and]
        omega
      · simp only [inD]
        exact ⟨h3.1, h3.2.1, e2⟩
      · simp only [ord]
        omega
    · by_cases hx : x + 1 < d
      · refine .inl ⟨(x + 1) :: List.replicate ds.length 0, ?_, ?_, ?_⟩
        · simp only [incr]
          rw [e1, if_neg (by simp), if_pos hx]
          simp only [dot, dot_zeros, Prod.mk.injEq, true_and]
          rw [Int.add_mul]
          omega
        · simp only [inD]
          exact ⟨by omega, hx, (zeros_in ds h1').1⟩
        · simp only [ord]
          rw [(zeros_in ds h1').2, Int.add_mul]
          omega
      · have ed : d = x + 1 := by omega
        refine .inr ⟨?_, ?_⟩
        · simp only [incr]
          rw [e1, if_neg (by simp), if_neg hx, List.length_cons, List.replicate_succ]
          simp only [dot, Prod.mk.injEq, true_and]
          rw [ed, Int.mul_add, Int.mul_comm s x]
          omega
        · simp only [ord, prod]
          rw [ed, Int.add_mul]
          omega
theorem spotsF_from (ds ss : List Int) (off : Int) (hr : runOk 1 ds = true) (hl : ds.length ≤ 6) (hls : ss.length = ds.length) (hs : ∀ s ∈ ss, -4096 ≤ s ∧ s ≤ 4096) (h0 : 0 ≤ off + loS ds ss) (h1 : off + hiS ds ss < 4096) : ∀ (m : Nat) (xs : List Int), inD ds xs → (prod ds).toNat - (ord ds xs).toNat = m →
    Ev (fun k => spotsF ds ss k xs (off + dot xs ss)) ((plcs ds ss off).drop (ord ds xs).toNat) := by
  have hd : ∀ d ∈ ds, 1 ≤ d ∧ d ≤ 4096 := fun d hm => run_all hr d hm
  have hd1 : ∀ d ∈ ds, 1 ≤ d := fun d hm => (hd d hm).1
  intro m
  induction m with
  | zero =>
    intro xs hx hm
    have := ord_lt hd1 hx
    omega
  | succ m ih =>
    intro xs hx hm
    have ho := ord_lt hd1 hx
    have hb := dot_between (ss := ss) hx
    have hlen := inD_len hx
    have sfx := spot_suffix ds ss xs [] [] [] (off + dot xs ss) hd hs hls hx rfl rfl (by omega) (by omega)
    simp only [List.nil_append, List.length_nil, Nat.zero_add] at sfx
    have hp : (ord ds xs).toNat < (plcs ds ss off).length := by
      simp only [plcs, List.length_map, List.length_range]
      omega
    have eg : (plcs ds ss off)[(ord ds xs).toNat] = off + dot xs ss := by
      simp only [plcs, List.getElem_map, List.getElem_range, plc]
      have := idxs_ord 0 hd1 hx
      rw [Int.zero_mul, Int.zero_add] at this
      rw [Int.toNat_of_nonneg ho.1, this]
    rw [drop_at hp, eg]
    rcases incr_spec ds ss xs (off + dot xs ss) hd1 hls hx with ⟨ys, e1, e2, e3⟩ | ⟨e1, e2⟩
    · rw [e1, if_pos rfl] at sfx
      have ih' := ih ys e2 (by omega)
      rw [show off + dot xs ss - dot xs ss + dot ys ss = off + dot ys ss by omega] at sfx
      rw [show (ord ds ys).toNat = (ord ds xs).toNat + 1 by omega] at ih'
      refine Ev.succ ?_
      simp only [spotsF]
      rw [sfx]
      exact Ev.pos rfl (Ev.bind ih' (Ev.some rfl))
    · rw [e1, if_neg (by simp)] at sfx
      refine Ev.succ ?_
      simp only [spotsF]
      rw [sfx]
      simp only [spotIn]
      refine Ev.neg (by simp) (Ev.some ?_)
      rw [List.drop_eq_nil_of_le]
      simp only [plcs, List.length_map, List.length_range]
      omega
theorem spotsF_ev {ds ss : List Int} {off base : Int} (hv : viewB ds ss off base = true) : Ev (fun k => spotsF ds ss k (List.replicate ds.length 0) off) (plcs ds ss off) := by
  obtain ⟨q1, q2, q3, q4, q5, q6, q7, q8, q9, q10⟩ := viewB_true hv
  have z := zeros_in ds (fun d hm => (run_all q2 d hm).1)
  have h := spotsF_from ds ss off q2 q1 q3 q8 q9 (by omega) _ _ z.1 rfl
  rw [z.2, dot_zeros] at h
  simpa using h
theorem plcs_len {ds ss : List Int} {off base : Int} (hv : viewB ds ss off base = true) : (plcs ds ss off).length ≤ 4096 := by
  obtain ⟨q1, q2, q3, q4, q5, q6, q7, q8, q9, q10⟩ := viewB_true hv
  have := run_prod (n := 1) (by omega) (by omega) q2
  simp only [plcs, List.length_map, List.length_range]
  omega
theorem view_eq (a b : List Int) (o s : Int) (ha : a.length ≤ 1048576) (hb : b.length ≤ 1048576) : Ev (fun k => laws_eqView.f k a b o s a b o s) true := by
  unfold laws_eqView.f
  exact Ev.bind (eqIntS_ev a (by omega)) (Ev.pos rfl (Ev.bind (eqIntS_ev b (by omega)) (Ev.pos rfl (Ev.pos rfl (Ev.pos rfl (Ev.some rfl))))))
theorem view_to (a b : List Int) (o s : Int) (ha : a.length ≤ 1048576) (hb : b.length ≤ 1048576) : Ev (fun k => laws_toView.f k a b o s) (a, b, o, s) := by
  unfold laws_toView.f
  exact Ev.bind (toIntS_ev a (by omega)) (Ev.bind (toIntS_ev b (by omega)) (Ev.some rfl))
theorem sz_view (a b : List Int) (o s : Int) (m1 : a.length ≤ 9223372036854775807) (m2 : b.length ≤ 9223372036854775807) : ∃ n, laws_szView.f a b o s 1048576 = some n ∧ (0 ≤ n → a.length ≤ 1048576 ∧ b.length ≤ 1048576) := by
  unfold laws_szView.f laws_szIntS.f
  rw [wrap_id (by omega : -9223372036854775808 ≤ 1048576 - (a.length : Int)) (by omega)]
  by_cases h1 : (1048576 : Int) - (a.length : Int) < 0
  · rw [if_pos h1]
    exact ⟨-1, by simp, by omega⟩
  rw [if_neg h1]
  simp only [Option.bind_some]
  rw [if_neg h1, wrap_id (by omega : -9223372036854775808 ≤ 1048576 - (a.length : Int) - (b.length : Int)) (by omega)]
  by_cases h2 : (1048576 : Int) - (a.length : Int) - (b.length : Int) < 0
  · rw [if_pos h2]
    exact ⟨-1, by simp, by omega⟩
  rw [if_neg h2]
  exact ⟨(1048576 : Int) - (a.length : Int) - (b.length : Int), by simp [h2], by omega⟩
theorem view_none (dims ss : List Int) (off base : Int) : True := trivial
theorem sz_viewC (a b : List Int) (o s c : Int) (hc0 : 0 ≤ c) (hc1 : c ≤ 1048576) (m1 : a.length ≤ 9223372036854775807) (m2 : b.length ≤ 9223372036854775807) : ∃ n, laws_szView.f a b o s c = some n ∧ n ≤ c ∧ (0 ≤ n → a.length ≤ 1048576 ∧ b.length ≤ 1048576) := by
  unfold laws_szView.f laws_szIntS.f
  rw [wrap_id (by omega : -9223372036854775808 ≤ c - (a.length : Int)) (by omega)]
  by_cases h1 : c - (a.length : Int) < 0
  · rw [if_pos h1]
    exact ⟨-1, by simp, by omega, by omega⟩
  rw [if_neg h1]
  simp only [Option.bind_some]
  rw [if_neg h1, wrap_id (by omega : -9223372036854775808 ≤ c - (a.length : Int) - (b.length : Int)) (by omega)]
  by_cases h2 : c - (a.length : Int) - (b.length : Int) < 0
  · rw [if_pos h2]
    exact ⟨-1, by simp, by omega, by omega⟩
  rw [if_neg h2]
  exact ⟨c - (a.length : Int) - (b.length : Int), by simp [h2], by omega, by omega⟩
theorem mkF_len : ∀ (xs : List Int) (m : List Bool), (mkF m xs).length = m.length
  | [], _ => rfl
  | p :: ps, m => by
    simp only [mkF]
    rw [mkF_len ps]
    simp
theorem any_l (ys : List Int) (m : List Bool) (hn : ys.length ≤ 4096) (hp : ∀ p ∈ ys, 0 ≤ p ∧ p < (m.length : Int)) : ∀ (d i : Nat), ys.length - i = d → i ≤ ys.length → Ev (fun k => spec_Meet.l1 k m ys (i : Int)) ((ys.drop i).any fun p => rdOf false m p) := by
  intro d
  induction d with
  | zero =>
    intro i hd hi
    refine Ev.succ ?_
    simp only [spec_Meet.l1]
    rw [List.drop_eq_nil_of_le (by omega)]
    exact Ev.neg (by omega) (Ev.some rfl)
  | succ d ih =>
    intro i hd hi
    refine Ev.succ ?_
    simp only [spec_Meet.l1]
    have hlt : i < ys.length := by omega
    have hr : rd ys (i : Int) = ys[i] := rd_at hlt
    have hx := hp ys[i] (List.getElem_mem hlt)
    rw [List.drop_eq_getElem_cons hlt, hr]
    refine Ev.pos (by omega) (Ev.pos (by omega) (Ev.pos (by omega) (Ev.pos (by omega) ?_)))
    rw [List.any_cons]
    by_cases c : rdOf false m ys[i] = true
    · refine Ev.pos c (Ev.some ?_)
      rw [c, Bool.true_or]
    · refine Ev.neg c ?_
      rw [show rdOf false m ys[i] = false by simpa using c, Bool.false_or, wrap_id (by omega) (by omega), show (i : Int) + 1 = ((i + 1 : Nat) : Int) by omega]
      exact ih (i + 1) (by omega) (by omega)
theorem mk_l (xs es ts : List Int) (o2 b2 : Int) (b : Nat) (r : Bool) (hn : xs.length ≤ 4096) (hp : ∀ p ∈ xs, 0 ≤ p ∧ p < (b : Int)) (hr : Ev (fun k => (spec_l3All.f k es ts o2 b2).bind fun t => spec_Meet.l1 k (mkF (List.replicate b false) xs) t 0) r) : ∀ (d i : Nat) (m : List Bool), xs.length - i = d → i ≤ xs.length → m.length = b → mkF m (xs.drop i) = mkF (List.replicate b false) xs → Ev (fun k => spec_Meet.l0 k m xs (i : Int) es ts o2 b2) r := by
  intro d
  induction d with
  | zero =>
    intro i m hd hi hm he
    refine Ev.succ ?_
    simp only [spec_Meet.l0]
    rw [List.drop_eq_nil_of_le (by omega)] at he
    simp only [mkF] at he
    rw [he]
    exact Ev.neg (by omega) hr
  | succ d ih =>
    intro i m hd hi hm he
    refine Ev.succ ?_
    simp only [spec_Meet.l0]
    have hlt : i < xs.length := by omega
    have hq : rd xs (i : Int) = xs[i] := rd_at hlt
    have hx := hp xs[i] (List.getElem_mem hlt)
    rw [List.drop_eq_getElem_cons hlt] at he
    simp only [mkF] at he
    rw [hq]
    refine Ev.pos (by omega) (Ev.pos (by omega) (Ev.pos (by omega) (Ev.pos (by omega) ?_)))
    rw [wrap_id (by omega) (by omega), show (i : Int) + 1 = ((i + 1 : Nat) : Int) by omega]
    exact ih (i + 1) _ (by omega) (by omega) (by simpa using hm) he
theorem meet_both (dims ss : List Int) (off base : Int) (es ts : List Int) (off2 base2 : Int) (h1 : dims.length ≤ 1048576) (h2 : ss.length ≤ 1048576) (h3 : es.length ≤ 1048576) (h4 : ts.length ≤ 1048576) :
    ∃ p, Ev (fun k => spec_Meet.f k dims ss off base es ts off2 base2) p ∧ Ev (fun k => impl_Meet.f k dims ss off base es ts off2 base2) p := by
  obtain ⟨e1, e2⟩ := view_ev dims ss off base (by omega) (by omega)
  obtain ⟨e3, e4⟩ := view_ev es ts off2 base2 (by omega) (by omega)
  have js : Ev (fun k => spec_Meet.j0 k true dims ss off base es ts off2 base2) false := Ev.succ (by simp only [spec_Meet.j0]; exact Ev.pos (by trivial) (Ev.some rfl))
  cases hv : viewB dims ss off base with
  | false =>
    rw [hv] at e1 e2
    refine ⟨false, ?_, ?_⟩
    · unfold spec_Meet.f
      exact Ev.bind e1 (Ev.neg (by simp) js)
    · unfold impl_Meet.f
      exact Ev.bind e2 (Ev.neg (by simp) (Ev.some rfl))
  | true =>
    rw [hv] at e1 e2
    cases hw : viewB es ts off2 base2 with
    | false =>
      rw [hw] at e3 e4
      refine ⟨false, ?_, ?_⟩
      · unfold spec_Meet.f
        exact Ev.bind e1 (Ev.pos (by simp) (Ev.bind e3 (Ev.neg (by simp) js)))
      · unfold impl_Meet.f
        exact Ev.bind e2 (Ev.pos (by simp) (Ev.bind e4 (Ev.neg (by simp) (Ev.some rfl))))
    | true =>
      rw [hw] at e3 e4
      obtain ⟨q1, q2, q3, q4, q5, q6, q7, q8, q9, q10⟩ := viewB_true hv
      obtain ⟨p1, p2, p3, p4, p5, p6, p7, p8, p9, p10⟩ := viewB_true hw
      by_cases hb : base = base2
      · subst hb
        have hp : ∀ p ∈ plcs dims ss off, 0 ≤ p ∧ p < base := (all_places dims ss off base (fun d hd => (run_all q2 d hd).1)).2 ⟨q9, q10⟩
        have hq : ∀ p ∈ plcs es ts off2, 0 ≤ p ∧ p < base := (all_places es ts off2 base (fun d hd => (run_all p2 d hd).1)).2 ⟨p9, p10⟩
        refine ⟨(plcs es ts off2).any fun p => rdOf false (mkF (List.replicate base.toNat false) (plcs dims ss off)) p, ?_, ?_⟩
        · unfold spec_Meet.f
          refine Ev.bind e1 (Ev.pos (by simp) (Ev.bind e3 (Ev.pos (by simp) (Ev.succ ?_))))
          simp only [spec_Meet.j0]
          refine Ev.neg (by simp) (Ev.pos (by omega) (Ev.pos (by omega) (Ev.bind (all_ev dims ss off base q2 q1 q3 q8 q6 (by omega)) ?_)))
          refine mk_l (plcs dims ss off) es ts off2 base base.toNat _ (plcs_len hv) (by intro p hpm; have := hp p hpm; omega) ?_ _ 0 _ rfl (by omega) (by simp) rfl
          refine Ev.bind (all_ev es ts off2 base p2 p1 p3 p8 p6 (by omega)) ?_
          exact any_l (plcs es ts off2) _ (plcs_len hw) (by intro p hpm; have := hq p hpm; rw [mkF_len, List.length_replicate]; omega) _ 0 rfl (by omega)
        · unfold impl_Meet.f
          exact Ev.bind e2 (Ev.pos (by simp) (Ev.bind e4 (Ev.pos (by simp) (Ev.pos rfl (Ev.pos ⟨⟨⟨by omega, by omega⟩, by omega, by omega⟩, by omega, by omega⟩ (Ev.bind (spotsF_ev hv) (Ev.bind (spotsF_ev hw) (Ev.pos ⟨hp, hq⟩ (Ev.some rfl)))))))))
      · refine ⟨false, ?_, ?_⟩
        · unfold spec_Meet.f
          refine Ev.bind e1 (Ev.pos (by simp) (Ev.bind e3 (Ev.pos (by simp) ?_)))
          rw [show (base != base2) = true by simpa using hb]
          exact js
        · unfold impl_Meet.f
          exact Ev.bind e2 (Ev.pos (by simp) (Ev.bind e4 (Ev.pos (by simp) (Ev.neg hb (Ev.some rfl)))))
theorem FnExactMeet (dims ss : List Int) (off base : Int) (es ts : List Int) (off2 base2 : Int) {g1 g2 g3 g4 : Int → Prop} {G H : Prop} (hg : (dims.length ≤ maxLen ∧ ∀ y ∈ dims, g1 y) ∧ (ss.length ≤ maxLen ∧ ∀ y ∈ ss, g2 y) ∧ G) (hh : (es.length ≤ maxLen ∧ ∀ y ∈ es, g3 y) ∧ (ts.length ≤ maxLen ∧ ∀ y ∈ ts, g4 y) ∧ H) : ∃ k, laws_FnExactMeet.f k dims ss off base es ts off2 base2 = some true := by
  apply Ev.rounds
  unfold laws_FnExactMeet.f
  obtain ⟨n, hn, hnc, hn2⟩ := sz_viewC dims ss off base 1048576 (by omega) (by omega) hg.1.1 hg.2.1.1
  refine Ev.b hn (Ev.ite (fun _ => Ev.some rfl) (fun h => ?_))
  obtain ⟨h1, h2⟩ := hn2 (by omega)
  obtain ⟨n', hn', _, hn2'⟩ := sz_viewC es ts off2 base2 n (by omega) (by omega) hh.1.1 hh.2.1.1
  refine Ev.b hn' (Ev.ite (fun _ => Ev.some rfl) (fun h' => ?_))
  obtain ⟨h3, h4⟩ := hn2' (by omega)
  have tv := view_to dims ss off base h1 h2
  have ve := view_eq dims ss off base h1 h2
  have tw := view_to es ts off2 base2 h3 h4
  have we := view_eq es ts off2 base2 h3 h4
  obtain ⟨p, hs, hi⟩ := meet_both dims ss off base es ts off2 base2 h1 h2 h3 h4
  exact Ev.bind tv (Ev.bind tw (Ev.bind hs (Ev.bind tv (Ev.bind tw (Ev.bind hi (Ev.neg (by simp) (Ev.bind tv (Ev.bind ve (Ev.pos rfl (Ev.bind tw (Ev.bind we (Ev.pos rfl (Ev.some rfl)))))))))))))
end Go.Proofs.Ytpoblnigmfbnfaa.PureFnExactMeet
