/- Of every view and all axes the program's Permute and the reference's give one view. -/
import Derived.Test.YtpoblnigmfbnfacPFnExactPermutex8
import Derived.Test.YtpoblnigmfbnfacBase
import Derived.Test.YtpoblnigmfbnfacVM
namespace Go.Proofs.Ytpoblnigmfbnfac.PureFnExactPermute
set_option linter.unusedVariables false
set_option linter.unusedSimpArgs false
open Go.RowKit Go.Proofs.Ytpoblnigmfbnfac.PFnExactPermute Go.Proofs.YtpoblnigmfbnfacW.PrintWords Go.Proofs.YtpoblnigmfbnfacW.PrintLast Go.Proofs.YtpoblnigmfbnfacW.PrintMore Go.Proofs.Ytpoblnigmfbnfac.Base Go.Proofs.Ytpoblnigmfbnfac.VM
/-! ### lists of whole numbers taken over and held against each other -/
theorem toIntS_l (l : List Int) (hn : l.length ≤ 9223372036854775807) : ∀ (d i : Nat), l.length - i = d → i ≤ l.length → Ev (fun k => laws_toIntS.l0 k l (l.take i ++ List.replicate (l.length - i) 0) (i : Int)) l := by
  intro d
  induction d with
  | zero =>
    intro i hd hi
    refine Ev.succ ?_
    simp only [laws_toIntS.l0]
    refine Ev.neg (by omega) (Ev.some ?_)
    rw [hd, List.take_of_length_le (by omega)]
    simp
  | succ d ih =>
    intro i hd hi
    refine Ev.succ ?_
    simp only [laws_toIntS.l0]
    have hlt : i < l.length := by omega
    refine Ev.pos (by omega) (Ev.pos (by omega) (Ev.pos (by simp; omega) ?_))
    rw [rd_at hlt, up i hlt hn, Int.toNat_natCast, set_copy hlt]
    exact ih (i + 1) (by omega) (by omega)
theorem toIntS_ev (l : List Int) (h : l.length ≤ 35184372088832) : Ev (fun k => laws_toIntS.f k l) l := by
  unfold laws_toIntS.f
  refine Ev.pos (by omega) (Ev.pos (by omega) ?_)
  have := toIntS_l l (by omega) l.length 0 (by omega) (by omega)
  simpa using this
theorem eqIntS_l (l : List Int) (hn : l.length ≤ 9223372036854775807) : ∀ (d i : Nat), l.length - i = d → i ≤ l.length → Ev (fun k => laws_eqIntS.l0 k l l (i : Int)) true := by
  intro d
  induction d with
  | zero =>
    intro i hd hi
    refine Ev.succ ?_
    simp only [laws_eqIntS.l0]
    exact Ev.neg (by omega) (Ev.some rfl)
  | succ d ih =>
    intro i hd hi
    refine Ev.succ ?_
    simp only [laws_eqIntS.l0]
    have hlt : i < l.length := by omega
    refine Ev.pos (by omega) (Ev.pos (by omega) (Ev.pos (by omega) (Ev.pos (by trivial) ?_)))
    rw [up i hlt hn]
    exact ih (i + 1) (by omega) (by omega)
theorem eqIntS_ev (l : List Int) (h : l.length ≤ 9223372036854775807) : Ev (fun k => laws_eqIntS.f k l l) true := by
  unfold laws_eqIntS.f
  exact Ev.pos rfl (eqIntS_l l (by omega) l.length 0 (by omega) (by omega))
/-! ### lengths -/
theorem size_l (l : List Int) (hn : l.length ≤ 9223372036854775807) : ∀ (d i : Nat) (n : Int), l.length - i = d → i ≤ l.length → 1 ≤ n → n ≤ 4096 → Ev (fun k => spec_l3Size.l0 k l n (i : Int)) (if runOk n (l.drop i) = true then n * prod (l.drop i) else 0) := by
  intro d
  induction d with
  | zero =>
    intro i n hd hi h0 h1
    refine Ev.succ ?_
    simp only [spec_l3Size.l0]
    refine Ev.neg (by omega) (Ev.some ?_)
    rw [List.drop_eq_nil_of_le (by omega)]
    simp [runOk, prod]
  | succ d ih =>
    intro i n hd hi h0 h1
    have hlt : i < l.length := by omega
    refine Ev.succ ?_
    simp only [spec_l3Size.l0]
    refine Ev.pos (by omega) (Ev.pos (by omega) ?_)
    rw [rd_at hlt, drop_at hlt]
    refine Ev.ite (fun h => Ev.succ ?_) (fun h => Ev.succ ?_)
    · simp only [spec_l3Size.j1]
      refine Ev.pos (by trivial) (Ev.some ?_)
      simp [runOk, h]
    · simp only [spec_l3Size.j1]
      by_cases h2 : 4096 < l[i]
      · refine Ev.pos (by simpa using h2) (Ev.some ?_)
        simp [runOk, h, h2]
      · have p1 : n * l[i] ≤ 4096 * 4096 := Int.mul_le_mul h1 (by omega) (by omega) (by omega)
        have p0 : 1 * 1 ≤ n * l[i] := Int.mul_le_mul h0 (by omega) (by omega) (by omega)
        refine Ev.neg (by simpa using h2) (Ev.pos (by omega) (Ev.pos (by omega) ?_))
        rw [rd_at hlt, wrap_id (by omega : -9223372036854775808 ≤ n * l[i]) (by omega), up i hlt hn]
        refine Ev.ite (fun h3 => Ev.some ?_) (fun h3 => ?_)
        · simp [runOk, h, h2, show 4096 < n * l[i] from h3]
        · have e : runOk n (l[i] :: l.drop (i + 1)) = runOk (n * l[i]) (l.drop (i + 1)) := by
            simp [runOk, h, h2, show ¬ 4096 < n * l[i] from h3]
          rw [e]
          simp only [prod]
          rw [← Int.mul_assoc]
          exact ih (i + 1) _ (by omega) (by omega) (by omega) (by omega)
theorem size_ev (l : List Int) (hn : l.length ≤ 9223372036854775807) : Ev (fun k => spec_l3Size.f k l) (if runOk 1 l = true then prod l else 0) := by
  have := size_l l hn l.length 0 1 (by omega) (by omega) (by omega) (by omega)
  rw [Int.one_mul] at this
  exact this
/-- Lengths that can be. -/
def dimsB (l : List Int) : Bool := decide (l.length ≤ 6) && runOk 1 l
theorem sdims_ev (l : List Int) (hn : l.length ≤ 9223372036854775807) : Ev (fun k => spec_DimsOk.f k l) (dimsB l) := by
  unfold spec_DimsOk.f dimsB
  refine Ev.ite (fun h => Ev.bind (size_ev l hn) (Ev.some ?_)) (fun h => Ev.some ?_)
  · rw [show decide (l.length ≤ 6) = true from decide_eq_true (by omega), Bool.true_and]
    cases hr : runOk 1 l with
    | true =>
      have := prod_pos hr
      simp
      omega
    | false => simp
  · rw [show decide (l.length ≤ 6) = false from decide_eq_false (by omega)]
    rfl
theorem idims_l (l : List Int) (hn : l.length ≤ 9223372036854775807) : ∀ (d i : Nat) (n : Int), l.length - i = d → i ≤ l.length → 1 ≤ n → n ≤ 4096 → Ev (fun k => impl_DimsOk.l0 k l n l (l.length : Int) (i : Int)) (decide (l.length ≤ 6) && runOk n (l.drop i)) := by
  intro d
  induction d with
  | zero =>
    intro i n hd hi h0 h1
    refine Ev.succ ?_
    simp only [impl_DimsOk.l0]
    refine Ev.neg (by omega) (Ev.some ?_)
    rw [List.drop_eq_nil_of_le (by omega)]
    simp only [runOk, Bool.and_true]
    exact decide_eq_decide.2 (by omega)
  | succ d ih =>
    intro i n hd hi h0 h1
    have hlt : i < l.length := by omega
    refine Ev.succ ?_
    simp only [impl_DimsOk.l0]
    refine Ev.pos (by omega) (Ev.pos (by omega) (Ev.pos (by omega) ?_))
    rw [rd_at hlt, drop_at hlt]
    refine Ev.ite (fun h => Ev.succ ?_) (fun h => Ev.succ ?_)
    · simp only [impl_DimsOk.j1]
      refine Ev.pos (by trivial) (Ev.some ?_)
      simp [runOk, h]
    · simp only [impl_DimsOk.j1]
      by_cases h2 : 4096 < l[i]
      · refine Ev.pos (by simpa using h2) (Ev.some ?_)
        simp [runOk, h, h2]
      · have p1 : n * l[i] ≤ 4096 * 4096 := Int.mul_le_mul h1 (by omega) (by omega) (by omega)
        have p0 : 1 * 1 ≤ n * l[i] := Int.mul_le_mul h0 (by omega) (by omega) (by omega)
        refine Ev.neg (by simpa using h2) ?_
        rw [wrap_id (by omega : -9223372036854775808 ≤ n * l[i]) (by omega), up i hlt hn]
        refine Ev.ite (fun h3 => Ev.some ?_) (fun h3 => ?_)
        · simp [runOk, h, h2, show 4096 < n * l[i] from h3]
        · have e : runOk n (l[i] :: l.drop (i + 1)) = runOk (n * l[i]) (l.drop (i + 1)) := by
            simp [runOk, h, h2, show ¬ 4096 < n * l[i] from h3]
          rw [e]
          exact ih (i + 1) _ (by omega) (by omega) (by omega) (by omega)
theorem idims_ev (l : List Int) (hn : l.length ≤ 9223372036854775807) : Ev (fun k => impl_DimsOk.f k l) (dimsB l) := idims_l l hn l.length 0 1 (by omega) (by omega) (by omega) (by omega)
/-! ### indexes in order, and their places -/
theorem index_l (l : List Int) (hn : l.length ≤ 6) (hd : ∀ d ∈ l, 1 ≤ d) (k0 : Int) (hk : 0 ≤ k0) (hk' : k0 ≤ 9223372036854775807) : ∀ (i : Nat), i ≤ l.length →
    Ev (fun k => spec_l3Index.l0 k l (idxs (l.drop i) k0).2 (List.replicate i 0 ++ (idxs (l.drop i) k0).1) ((i : Int) - 1)) (idxs l k0).1 := by
  intro i
  induction i with
  | zero =>
    intro hi
    refine Ev.succ ?_
    simp only [spec_l3Index.l0]
    refine Ev.neg (by omega) (Ev.some ?_)
    simp
  | succ i ih =>
    intro hi
    have hlt : i < l.length := by omega
    have hdi := hd _ (List.getElem_mem hlt)
    have hnn : 0 ≤ (idxs (l.drop (i + 1)) k0).2 := idxs_nonneg (fun d hm => hd d (List.mem_of_mem_drop hm)) hk
    have hle : (idxs (l.drop (i + 1)) k0).2 ≤ k0 := by
      have o := ord_idxs (ds := l.drop (i + 1)) (fun d hm => hd d (List.mem_of_mem_drop hm)) hk
      obtain ⟨o1, o2⟩ := ord_lt (ds := l.drop (i + 1)) (fun d hm => hd d (List.mem_of_mem_drop hm)) (idxs_in (fun d hm => hd d (List.mem_of_mem_drop hm)) hk)
      have p : (idxs (l.drop (i + 1)) k0).2 * 1 ≤ (idxs (l.drop (i + 1)) k0).2 * prod (l.drop (i + 1)) := Int.mul_le_mul_of_nonneg_left (by omega) hnn
      omega
    have hq : 0 ≤ (idxs (l.drop (i + 1)) k0).2 / l[i] := Int.ediv_nonneg hnn (by omega)
    have hq' : (idxs (l.drop (i + 1)) k0).2 / l[i] ≤ (idxs (l.drop (i + 1)) k0).2 := Int.ediv_le_self _ hnn
    refine Ev.succ ?_
    simp only [spec_l3Index.l0]
    have e1 : ((i + 1 : Nat) : Int) - 1 = (i : Int) := by omega
    rw [e1]
    refine Ev.pos (by omega) (Ev.pos (by omega) (Ev.pos (by omega) ?_))
    rw [rd_at hlt]
    refine Ev.neg (by omega) (Ev.pos (by simp [idxs_len]; omega) ?_)
    rw [wrap_id (by omega : -9223372036854775808 ≤ (i : Int) - 1) (by omega), Int.tdiv_eq_ediv_of_nonneg hnn, Int.tmod_eq_emod_of_nonneg hnn, wrap_id (by omega : -9223372036854775808 ≤ (idxs (l.drop (i + 1)) k0).2 / l[i]) (by omega), Int.toNat_natCast]
    have ih := ih (by omega)
    rw [drop_at hlt] at ih
    simp only [idxs] at ih
    have e2 : (List.replicate (i + 1) (0 : Int) ++ (idxs (l.drop (i + 1)) k0).1).set i ((idxs (l.drop (i + 1)) k0).2 % l[i]) = List.replicate i 0 ++ ((idxs (l.drop (i + 1)) k0).2 % l[i] :: (idxs (l.drop (i + 1)) k0).1) := by
      rw [show List.replicate (i + 1) (0 : Int) = List.replicate i 0 ++ [0] from List.replicate_succ', List.append_assoc, List.set_append_right _ _ (by simp)]
      simp
    rw [e2]
    exact ih
theorem index_ev (l : List Int) (hn : l.length ≤ 6) (hd : ∀ d ∈ l, 1 ≤ d) (k0 : Int) (hk : 0 ≤ k0) (hk' : k0 ≤ 9223372036854775807) : Ev (fun k => spec_l3Index.f k l k0) (idxs l k0).1 := by
  unfold spec_l3Index.f
  refine Ev.pos (by omega) (Ev.pos (by omega) ?_)
  have := index_l l hn hd k0 hk hk' l.length (by omega)
  rw [List.drop_length] at this
  simp only [idxs, List.append_nil] at this
  rw [wrap_id (by omega) (by omega)]
  exact this
theorem place_l (dims ss : List Int) (off base : Int) (xs : List Int) (hl : xs.length ≤ ss.length) (hx : xs.length ≤ 6) (hb : ∀ (i : Nat) (h1 : i < xs.length) (h2 : i < ss.length), -16777216 ≤ xs[i] * ss[i] ∧ xs[i] * ss[i] ≤ 16777216) :
    ∀ (d i : Nat) (p : Int), xs.length - i = d → i ≤ xs.length → -4096 - 16777216 * i ≤ p → p ≤ 4096 + 16777216 * i → Ev (fun k => spec_l3Place.l0 k xs p (i : Int) dims ss off base) (p + dot (xs.drop i) (ss.drop i)) := by
  intro d
  induction d with
  | zero =>
    intro i p hd hi h0 h1
    refine Ev.succ ?_
    simp only [spec_l3Place.l0]
    refine Ev.neg (by omega) (Ev.some ?_)
    rw [List.drop_eq_nil_of_le (by omega)]
    simp [dot]
  | succ d ih =>
    intro i p hd hi h0 h1
    have hlt : i < xs.length := by omega
    have hlt' : i < ss.length := by omega
    have b := hb i hlt hlt'
    refine Ev.succ ?_
    simp only [spec_l3Place.l0]
    refine Ev.pos (by omega) (Ev.pos (by omega) (Ev.pos (by omega) ?_))
    rw [rd_at hlt, rd_at hlt', wrap_id (by omega : -9223372036854775808 ≤ xs[i] * ss[i]) (by omega), wrap_id (by omega : -9223372036854775808 ≤ p + xs[i] * ss[i]) (by omega), up i hlt (by omega), drop_at hlt, drop_at hlt']
    simp only [dot]
    rw [← Int.add_assoc]
    exact ih (i + 1) _ (by omega) (by omega) (by omega) (by omega)
theorem in_bound : ∀ {ds xs : List Int}, (∀ d ∈ ds, d ≤ 4096) → inD ds xs → ∀ (i : Nat) (h : i < xs.length), 0 ≤ xs[i] ∧ xs[i] < 4096
  | [], [], _, _, i, h => by simp at h
  | d :: ds, x :: xs, hd, hi, i, h => by
    cases i with
    | zero =>
      have := hd d List.mem_cons_self
      obtain ⟨h1, h2, _⟩ := hi
      simp
      omega
    | succ i =>
      simp only [List.getElem_cons_succ]
      exact in_bound (fun e he => hd e (List.mem_cons_of_mem _ he)) hi.2.2 i (by simpa using h)
  | [], _ :: _, _, h, _, _ => h.elim
  | _ :: _, [], _, h, _, _ => h.elim
theorem mul_bound {x s : Int} (h0 : 0 ≤ x) (h1 : x < 4096) (h2 : -4096 ≤ s) (h3 : s ≤ 4096) : -16777216 ≤ x * s ∧ x * s ≤ 16777216 := by
  have p1 : x * s ≤ x * 4096 := Int.mul_le_mul_of_nonneg_left h3 h0
  have p2 : x * (-4096) ≤ x * s := Int.mul_le_mul_of_nonneg_left h2 h0
  omega
theorem place_ev (dims ss : List Int) (off base : Int) (xs : List Int) (hin : inD dims xs) (hd : ∀ d ∈ dims, d ≤ 4096) (hl : dims.length ≤ 6) (hls : ss.length = dims.length) (hs : ∀ s ∈ ss, -4096 ≤ s ∧ s ≤ 4096) (h0 : 0 ≤ off) (h1 : off ≤ 4096) : Ev (fun k => spec_l3Place.f k dims ss off base xs) (off + dot xs ss) := by
  have hx := inD_len hin
  have := place_l dims ss off base xs (by omega) (by omega) (fun i a b => by
    have x := in_bound hd hin i a
    have s := hs _ (List.getElem_mem b)
    exact mul_bound x.1 x.2 s.1 s.2) xs.length 0 off (by omega) (by omega) (by omega) (by omega)
  exact this
theorem all_l (dims ss : List Int) (off base : Int) (hr : runOk 1 dims = true) (hl : dims.length ≤ 6) (hls : ss.length = dims.length) (hs : ∀ s ∈ ss, -4096 ≤ s ∧ s ≤ 4096) (h0 : 0 ≤ off) (h1 : off ≤ 4096) :
    ∀ (d i : Nat), (prod dims).toNat - i = d → i ≤ (prod dims).toNat → Ev (fun k => spec_l3All.l0 k ((List.range i).map (plc dims ss off)) (prod dims) (i : Int) dims ss off base) (plcs dims ss off) := by
  have hp := prod_pos hr
  have hp' := run_prod (n := 1) (by omega) (by omega) hr
  intro d
  induction d with
  | zero =>
    intro i hd hi
    refine Ev.succ ?_
    simp only [spec_l3All.l0]
    refine Ev.neg (by omega) (Ev.some ?_)
    rw [show i = (prod dims).toNat by omega]
    rfl
  | succ d ih =>
    intro i hd hi
    refine Ev.succ ?_
    simp only [spec_l3All.l0]
    have ha := run_all hr
    refine Ev.pos (by omega) (Ev.bind (index_ev dims hl (fun e he => (ha e he).1) (i : Int) (by omega) (by omega)) (Ev.bind (place_ev dims ss off base _ (idxs_in (fun e he => (ha e he).1) (by omega)) (fun e he => (ha e he).2) hl hls hs h0 h1) (Ev.pos (by simp; omega) ?_)))
    rw [up i (by omega : i < 4096) (by omega)]
    have := ih (i + 1) (by omega) (by omega)
    rw [List.range_succ, List.map_append] at this
    exact this
theorem all_ev (dims ss : List Int) (off base : Int) (hr : runOk 1 dims = true) (hl : dims.length ≤ 6) (hls : ss.length = dims.length) (hs : ∀ s ∈ ss, -4096 ≤ s ∧ s ≤ 4096) (h0 : 0 ≤ off) (h1 : off ≤ 4096) : Ev (fun k => spec_l3All.f k dims ss off base) (plcs dims ss off) := by
  unfold spec_l3All.f
  have e := size_ev dims (by omega)
  rw [if_pos hr] at e
  exact Ev.bind e (all_l dims ss off base hr hl hls hs h0 h1 (prod dims).toNat 0 (by omega) (by omega))
/-! ### views that can be -/
def strB (ss : List Int) : Bool := ss.all fun s => decide (-4096 ≤ s) && decide (s ≤ 4096)
def viewB (dims ss : List Int) (off base : Int) : Bool :=
  dimsB dims && decide (ss.length = dims.length) && (decide (1 ≤ base) && decide (base ≤ 4096) && decide (0 ≤ off) && decide (off < base)) && (strB ss && decide (0 ≤ off + loS dims ss ∧ off + hiS dims ss < base))
theorem strB_all {ss : List Int} (h : strB ss = true) : ∀ s ∈ ss, -4096 ≤ s ∧ s ≤ 4096 := by
  intro s hs
  have := List.all_eq_true.1 h s hs
  simpa using this
theorem sv1 (dims ss : List Int) (off base : Int) (ps : List Int) (hn : ps.length ≤ 9223372036854775807) : ∀ (d i : Nat), ps.length - i = d → i ≤ ps.length → Ev (fun k => spec_ViewOk.l1 k ps (i : Int) dims ss off base) ((ps.drop i).all fun p => decide (0 ≤ p) && decide (p < base)) := by
  intro d
  induction d with
  | zero =>
    intro i hd hi
    refine Ev.succ ?_
    simp only [spec_ViewOk.l1]
    refine Ev.neg (by omega) (Ev.some ?_)
    rw [List.drop_eq_nil_of_le (by omega)]
    simp
  | succ d ih =>
    intro i hd hi
    have hlt : i < ps.length := by omega
    refine Ev.succ ?_
    simp only [spec_ViewOk.l1]
    refine Ev.pos (by omega) (Ev.pos (by omega) ?_)
    rw [rd_at hlt, drop_at hlt, up i hlt hn]
    refine Ev.ite (fun h => Ev.some ?_) (fun h => Ev.ite (fun h' => Ev.some ?_) (fun h' => ?_))
    · rw [List.all_cons, show decide (0 ≤ ps[i]) = false from decide_eq_false (by omega)]
      rfl
    · rw [List.all_cons, show decide (ps[i] < base) = false from decide_eq_false (by omega), Bool.and_false]
      rfl
    · rw [List.all_cons, show decide (0 ≤ ps[i]) = true from decide_eq_true (by omega), show decide (ps[i] < base) = true from decide_eq_true (by omega), Bool.true_and, Bool.true_and]
      exact ih (i + 1) (by omega) (by omega)
theorem all_dec (ps : List Int) (base : Int) (q : Prop) [Decidable q] (h : (∀ p ∈ ps, 0 ≤ p ∧ p < base) ↔ q) : (ps.all fun p => decide (0 ≤ p) && decide (p < base)) = decide q := by
  rw [Bool.eq_iff_iff, decide_eq_true_eq, ← h, List.all_eq_true]
  simp only [Bool.and_eq_true, decide_eq_true_eq]
theorem sv0 (dims ss : List Int) (off base : Int) (hr : runOk 1 dims = true) (hl : dims.length ≤ 6) (hls : ss.length = dims.length) (h0 : 0 ≤ off) (h1 : off ≤ 4096) : ∀ (d i : Nat), ss.length - i = d → i ≤ ss.length → (∀ (j : Nat) (h : j < ss.length), j < i → -4096 ≤ ss[j] ∧ ss[j] ≤ 4096) →
    Ev (fun k => spec_ViewOk.l0 k (i : Int) dims ss off base) (strB (ss.drop i) && decide (0 ≤ off + loS dims ss ∧ off + hiS dims ss < base)) := by
  intro d
  induction d with
  | zero =>
    intro i hd hi hs
    refine Ev.succ ?_
    simp only [spec_ViewOk.l0]
    have hp' := run_prod (n := 1) (by omega) (by omega) hr
    have hss : ∀ s ∈ ss, -4096 ≤ s ∧ s ≤ 4096 := fun s hm => by
      obtain ⟨j, hj, rfl⟩ := List.getElem_of_mem hm
      exact hs j hj (by omega)
    refine Ev.neg (by omega) (Ev.bind (all_ev dims ss off base hr hl hls hss h0 h1) ?_)
    have e := sv1 dims ss off base (plcs dims ss off) (by simp [plcs]; omega) _ 0 rfl (by omega)
    rw [List.drop_zero] at e
    rw [List.drop_eq_nil_of_le (by omega)]
    have := all_places dims ss off base (fun d hm => (run_all hr d hm).1)
    rw [all_dec _ _ _ this] at e
    exact e
  | succ d ih =>
    intro i hd hi hs
    have hlt : i < ss.length := by omega
    refine Ev.succ ?_
    simp only [spec_ViewOk.l0]
    refine Ev.pos (by omega) (Ev.pos (by omega) ?_)
    rw [rd_at hlt, drop_at hlt, up i hlt (by omega)]
    refine Ev.ite (fun h => Ev.some ?_) (fun h => Ev.ite (fun h' => Ev.some ?_) (fun h' => ?_))
    · simp only [strB, List.all_cons]
      rw [show decide (-4096 ≤ ss[i]) = false from decide_eq_false (by omega)]
      rfl
    · simp only [strB, List.all_cons]
      rw [show decide (ss[i] ≤ 4096) = false from decide_eq_false (by omega), Bool.and_false]
      rfl
    · have e : strB (ss[i] :: ss.drop (i + 1)) = strB (ss.drop (i + 1)) := by
        simp only [strB, List.all_cons]
        rw [show decide (-4096 ≤ ss[i]) = true from decide_eq_true (by omega), show decide (ss[i] ≤ 4096) = true from decide_eq_true (by omega)]
        rfl
      rw [e]
      refine ih (i + 1) (by omega) (by omega) (fun j hj hji => ?_)
      by_cases hji' : j < i
      · exact hs j hj hji'
      · obtain rfl : j = i := by omega
        omega
theorem iv0 (dims ss : List Int) (off base : Int) (hr : runOk 1 dims = true) (hl : dims.length ≤ 6) (hls : ss.length = dims.length) : ∀ (d i : Nat) (lo hi : Int), ss.length - i = d → i ≤ ss.length → -4096 - 16777216 * i ≤ lo → lo ≤ 4096 + 16777216 * i → -4096 - 16777216 * i ≤ hi → hi ≤ 4096 + 16777216 * i →
    Ev (fun k => impl_ViewOk.l0 k lo hi ss (ss.length : Int) (i : Int) dims ss off base) (strB (ss.drop i) && decide (0 ≤ lo + loS (dims.drop i) (ss.drop i) ∧ hi + hiS (dims.drop i) (ss.drop i) < base)) := by
  intro d
  induction d with
  | zero =>
    intro i lo hi hd hi' l1 l2 h1 h2
    refine Ev.succ ?_
    simp only [impl_ViewOk.l0]
    refine Ev.neg (by omega) ?_
    rw [show ss.drop i = [] from List.drop_eq_nil_of_le (by omega), show dims.drop i = [] from List.drop_eq_nil_of_le (by omega)]
    simp only [loS, hiS, strB, List.all_nil, Bool.true_and, Int.add_zero]
    refine Ev.ite (fun h => Ev.some ?_) (fun h => Ev.some ?_)
    · exact decide_eq_decide.2 (by omega)
    · exact (decide_eq_false (by omega)).symm
  | succ d ih =>
    intro i lo hi hd hi' l1 l2 h1 h2
    have hlt : i < ss.length := by omega
    have hlt' : i < dims.length := by omega
    refine Ev.succ ?_
    simp only [impl_ViewOk.l0]
    refine Ev.pos (by omega) (Ev.pos (by omega) (Ev.pos (by omega) ?_))
    rw [rd_at hlt, rd_at hlt', drop_at hlt, drop_at hlt', up i hlt (by omega)]
    refine Ev.ite (fun h => Ev.some ?_) (fun h => Ev.ite (fun h' => Ev.some ?_) (fun h' => Ev.pos (by omega) ?_))
    · simp only [strB, List.all_cons]
      rw [show decide (-4096 ≤ ss[i]) = false from decide_eq_false (by omega)]
      rfl
    · simp only [strB, List.all_cons]
      rw [show decide (ss[i] ≤ 4096) = false from decide_eq_false (by omega), Bool.and_false]
      rfl
    · have e : strB (ss[i] :: ss.drop (i + 1)) = strB (ss.drop (i + 1)) := by
        simp only [strB, List.all_cons]
        rw [show decide (-4096 ≤ ss[i]) = true from decide_eq_true (by omega), show decide (ss[i] ≤ 4096) = true from decide_eq_true (by omega)]
        rfl
      have hdi := run_all hr _ (List.getElem_mem hlt')
      have b := mul_bound (x := dims[i] - 1) (s := ss[i]) (by omega) (by omega) (by omega) (by omega)
      rw [Int.mul_comm] at b
      have c1 : -16777216 ≤ mn 0 (ss[i] * (dims[i] - 1)) ∧ mn 0 (ss[i] * (dims[i] - 1)) ≤ 16777216 := by
        unfold mn
        split <;> omega
      have c2 : -16777216 ≤ mx 0 (ss[i] * (dims[i] - 1)) ∧ mx 0 (ss[i] * (dims[i] - 1)) ≤ 16777216 := by
        unfold mx
        split <;> omega
      rw [e, wrap_id (by omega : -9223372036854775808 ≤ dims[i] - 1) (by omega), wrap_id (by omega : -9223372036854775808 ≤ ss[i] * (dims[i] - 1)) (by omega), wrap_id (by omega : -9223372036854775808 ≤ lo + mn 0 (ss[i] * (dims[i] - 1))) (by omega), wrap_id (by omega : -9223372036854775808 ≤ hi + mx 0 (ss[i] * (dims[i] - 1))) (by omega)]
      simp only [loS, hiS, ← Int.add_assoc]
      exact ih (i + 1) _ _ (by omega) (by omega) (by omega) (by omega) (by omega) (by omega)
theorem view_ev (dims ss : List Int) (off base : Int) (h1 : dims.length ≤ 9223372036854775807) (h2 : ss.length ≤ 9223372036854775807) : Ev (fun k => spec_ViewOk.f k dims ss off base) (viewB dims ss off base) ∧ Ev (fun k => impl_ViewOk.f k dims ss off base) (viewB dims ss off base) := by
  have js : Ev (fun k => spec_ViewOk.j0 k true dims ss off base) false := Ev.succ (by simp only [spec_ViewOk.j0]; exact Ev.pos (by trivial) (Ev.some rfl))
  have ji : Ev (fun k => impl_ViewOk.j0 k true dims ss off base) false := Ev.succ (by simp only [impl_ViewOk.j0]; exact Ev.pos (by trivial) (Ev.some rfl))
  have d1 := sdims_ev dims h1
  have d2 := idims_ev dims h1
  unfold spec_ViewOk.f impl_ViewOk.f viewB
  cases hB : dimsB dims with
  | false =>
    rw [hB] at d1 d2
    exact ⟨Ev.bind d1 (Ev.neg (by simp) js), Ev.bind d2 (Ev.neg (by simp) ji)⟩
  | true =>
    rw [hB] at d1 d2
    by_cases hl : ss.length = dims.length
    · rw [show decide (ss.length = dims.length) = true from decide_eq_true hl]
      by_cases c1 : base < 1
      · rw [show decide (1 ≤ base) = false from decide_eq_false (by omega)]
        exact ⟨Ev.bind d1 (Ev.pos (by trivial) (Ev.pos (by omega) (Ev.pos c1 js))), Ev.bind d2 (Ev.pos (by trivial) (Ev.pos (by omega) (Ev.pos c1 ji)))⟩
      · rw [show decide (1 ≤ base) = true from decide_eq_true (by omega)]
        by_cases c2 : base > 4096
        · rw [show decide (base ≤ 4096) = false from decide_eq_false (by omega)]
          exact ⟨Ev.bind d1 (Ev.pos (by trivial) (Ev.pos (by omega) (Ev.neg c1 (Ev.pos c2 js)))), Ev.bind d2 (Ev.pos (by trivial) (Ev.pos (by omega) (Ev.neg c1 (Ev.pos c2 ji))))⟩
        · rw [show decide (base ≤ 4096) = true from decide_eq_true (by omega)]
          by_cases c3 : off < 0
          · rw [show decide (0 ≤ off) = false from decide_eq_false (by omega)]
            exact ⟨Ev.bind d1 (Ev.pos (by trivial) (Ev.pos (by omega) (Ev.neg c1 (Ev.neg c2 (Ev.pos c3 js))))), Ev.bind d2 (Ev.pos (by trivial) (Ev.pos (by omega) (Ev.neg c1 (Ev.neg c2 (Ev.pos c3 ji)))))⟩
          · rw [show decide (0 ≤ off) = true from decide_eq_true (by omega)]
            by_cases c4 : off ≥ base
            · rw [show decide (off < base) = false from decide_eq_false (by omega), show decide (off ≥ base) = true from decide_eq_true c4]
              exact ⟨Ev.bind d1 (Ev.pos (by trivial) (Ev.pos (by omega) (Ev.neg c1 (Ev.neg c2 (Ev.neg c3 js))))), Ev.bind d2 (Ev.pos (by trivial) (Ev.pos (by omega) (Ev.neg c1 (Ev.neg c2 (Ev.neg c3 ji)))))⟩
            · rw [show decide (off < base) = true from decide_eq_true (by omega), show decide (off ≥ base) = false from decide_eq_false c4]
              have hB' := hB
              unfold dimsB at hB'
              simp only [Bool.and_eq_true, decide_eq_true_eq] at hB'
              obtain ⟨hl6, hr⟩ := hB'
              have s := sv0 dims ss off base hr hl6 hl (by omega) (by omega) ss.length 0 (by omega) (by omega) (fun j _ hj => by omega)
              have i := iv0 dims ss off base hr hl6 hl ss.length 0 off off (by omega) (by omega) (by omega) (by omega) (by omega) (by omega)
              refine ⟨Ev.bind d1 (Ev.pos (by trivial) (Ev.pos (by omega) (Ev.neg c1 (Ev.neg c2 (Ev.neg c3 (Ev.succ ?_)))))), Ev.bind d2 (Ev.pos (by trivial) (Ev.pos (by omega) (Ev.neg c1 (Ev.neg c2 (Ev.neg c3 (Ev.succ ?_))))))⟩
              · simp only [spec_ViewOk.j0]
                exact Ev.neg (by simp) s
              · simp only [impl_ViewOk.j0]
                exact Ev.neg (by simp) i
    · rw [show decide (ss.length = dims.length) = false from decide_eq_false hl]
      exact ⟨Ev.bind d1 (Ev.pos (by trivial) (Ev.neg (by omega) js)), Ev.bind d2 (Ev.pos (by trivial) (Ev.neg (by omega) ji))⟩
/-- What a view that can be is. -/
theorem viewB_true {dims ss : List Int} {off base : Int} (h : viewB dims ss off base = true) :
    dims.length ≤ 6 ∧ runOk 1 dims = true ∧ ss.length = dims.length ∧ 1 ≤ base ∧ base ≤ 4096 ∧ 0 ≤ off ∧ off < base ∧ (∀ s ∈ ss, -4096 ≤ s ∧ s ≤ 4096) ∧ 0 ≤ off + loS dims ss ∧ off + hiS dims ss < base := by
  unfold viewB dimsB at h
  simp only [Bool.and_eq_true, decide_eq_true_eq] at h
  obtain ⟨⟨⟨⟨a, b⟩, c⟩, ⟨⟨d, e⟩, f⟩, g⟩, i, j, l⟩ := h
  exact ⟨a, b, c, d, e, f, g, strB_all i, j, l⟩
/-! ### marks: written into what was made, and found there again -/
def ups (a : Int) : Nat → List Int
  | 0 => []
  | n + 1 => a :: ups (a + 1) n
theorem ups_len : ∀ (n : Nat) (a : Int), (ups a n).length = n
  | 0, _ => rfl
  | n + 1, a => by simp [ups, ups_len n]
theorem ups_at : ∀ (n : Nat) (a : Int) (i : Nat) (h : i < (ups a n).length), (ups a n)[i] = a + i
  | 0, _, _, h => by simp [ups] at h
  | n + 1, a, 0, _ => by simp [ups]
  | n + 1, a, i + 1, h => by
    simp only [ups, List.getElem_cons_succ]
    rw [ups_at n (a + 1) i (by simpa [ups] using h)]
    omega
theorem set_over {β : Type} {L l : List β} {i : Nat} (h : i < L.length) (hl : l.length = L.length) : (L.take i ++ l.drop i).set i L[i] = L.take (i + 1) ++ l.drop (i + 1) := by
  have h' : i < l.length := by omega
  rw [List.drop_eq_getElem_cons h', List.set_append_right _ _ (by simp; omega), List.length_take, Nat.min_eq_left (by omega), Nat.sub_self, List.set_cons_zero, List.take_succ_eq_append_getElem h, List.append_assoc]
  rfl
theorem mark_l (l : List Int) (a : Int) (h0 : 0 ≤ a) (h1 : a + l.length ≤ 4611686018427387904) : ∀ (d i : Nat), l.length - i = d → i ≤ l.length → Ev (fun k => laws_markIntS.l0 k ((ups a l.length).take i ++ l.drop i) (a + i) (i : Int)) (a + l.length, ups a l.length) := by
  intro d
  induction d with
  | zero =>
    intro i hd hi
    refine Ev.succ ?_
    simp only [laws_markIntS.l0]
    have e : (ups a l.length).take i ++ l.drop i = ups a l.length := by
      rw [List.drop_eq_nil_of_le (by omega), List.append_nil, List.take_of_length_le (by rw [ups_len]; omega)]
    rw [e]
    exact Ev.neg (by rw [ups_len]; omega) (Ev.some (by rw [show i = l.length by omega]))
  | succ d ih =>
    intro i hd hi
    refine Ev.succ ?_
    simp only [laws_markIntS.l0]
    have hu : i < (ups a l.length).length := by rw [ups_len]; omega
    refine Ev.pos (by simp [ups_len]; omega) (Ev.pos (by omega) ?_)
    have e := set_over hu (l := l) (by rw [ups_len])
    rw [ups_at l.length a i hu] at e
    rw [Int.toNat_natCast, e, up i (by omega : i < l.length) (by omega), wrap_id (by omega) (by omega), show a + (i : Int) + 1 = a + ((i + 1 : Nat) : Int) by omega]
    exact ih (i + 1) (by omega) (by omega)
theorem mark_ev (l : List Int) (a : Int) (h0 : 0 ≤ a) (h1 : a + l.length ≤ 4611686018427387904) : Ev (fun k => laws_markIntS.f k l a) (a + l.length, ups a l.length) := by
  unfold laws_markIntS.f
  have := mark_l l a h0 h1 l.length 0 (by omega) (by omega)
  simpa using this
theorem held_l (n : Nat) (a : Int) (h0 : 0 ≤ a) (h1 : a + n ≤ 4611686018427387904) : ∀ (d i : Nat), n - i = d → i ≤ n → Ev (fun k => laws_heldIntS.l0 k (ups a n) (a + i) (i : Int)) (a + n) := by
  intro d
  induction d with
  | zero =>
    intro i hd hi
    refine Ev.succ ?_
    simp only [laws_heldIntS.l0]
    exact Ev.neg (by rw [ups_len]; omega) (Ev.some (by rw [show i = n by omega]))
  | succ d ih =>
    intro i hd hi
    refine Ev.succ ?_
    simp only [laws_heldIntS.l0]
    have hu : i < (ups a n).length := by rw [ups_len]; omega
    refine Ev.pos (by omega) (Ev.pos (by omega) ?_)
    rw [rd_at hu, ups_at n a i hu, up i (by omega : i < n) (by omega), wrap_id (by omega) (by omega), show a + (i : Int) + 1 = a + ((i + 1 : Nat) : Int) by omega]
    exact Ev.pos rfl (ih (i + 1) (by omega) (by omega))
theorem held_ev (n : Nat) (a : Int) (h0 : 0 ≤ a) (h1 : a + n ≤ 4611686018427387904) : Ev (fun k => laws_heldIntS.f k (ups a n) a) (a + n) := by
  unfold laws_heldIntS.f
  have := held_l n a h0 h1 n 0 (by omega) (by omega)
  simpa using this
theorem clone_f (l : List Int) (h : l.length < 17592186044416) : slices_Clone_int_int.f l = some l := by
  unfold slices_Clone_int_int.f
  rw [if_pos h]
theorem slindex_l (l : List Int) (a : Int) (hn : l.length ≤ 9007199254740991) : ∀ (d i : Nat), l.length - i = d → i ≤ l.length → ∃ r, Ev (fun k => slices_Index_int_int.l0 k l a (l.length : Int) (i : Int)) r ∧ (r ≥ 0 ↔ a ∈ l.drop i) := by
  intro d
  induction d with
  | zero =>
    intro i hd hi
    refine ⟨-1, Ev.succ ?_, ?_⟩
    · simp only [slices_Index_int_int.l0]
      exact Ev.neg (by omega) (Ev.some rfl)
    · rw [List.drop_eq_nil_of_le (by omega)]
      simp
  | succ d ih =>
    intro i hd hi
    have hlt : i < l.length := by omega
    by_cases h : a = l[i]
    · refine ⟨(i : Int), Ev.succ ?_, ?_⟩
      · simp only [slices_Index_int_int.l0]
        rw [rd_at hlt]
        exact Ev.pos (by omega) (Ev.pos (by omega) (Ev.pos (by omega) (Ev.pos h (Ev.some rfl))))
      · rw [drop_at hlt]
        exact ⟨fun _ => by rw [h]; exact List.mem_cons_self, fun _ => by omega⟩
    · obtain ⟨r, h1, h2⟩ := ih (i + 1) (by omega) (by omega)
      refine ⟨r, Ev.succ ?_, ?_⟩
      · simp only [slices_Index_int_int.l0]
        rw [rd_at hlt, up i hlt (by omega)]
        exact Ev.pos (by omega) (Ev.pos (by omega) (Ev.pos (by omega) (Ev.neg h h1)))
      · rw [h2, drop_at hlt, List.mem_cons]
        simp [h]
theorem contains_ev (l : List Int) (a : Int) (hn : l.length ≤ 9007199254740991) : Ev (fun k => slices_Contains_int_int.f k l a) (decide (a ∈ l)) := by
  obtain ⟨r, h1, h2⟩ := slindex_l l a hn _ 0 rfl (by omega)
  unfold slices_Contains_int_int.f slices_Index_int_int.f
  refine Ev.bind h1 (Ev.some ?_)
  rw [List.drop_zero] at h2
  exact decide_eq_decide.2 h2
theorem view_eq (a b : List Int) (o s : Int) (ha : a.length ≤ 1048576) (hb : b.length ≤ 1048576) : Ev (fun k => laws_eqView.f k a b o s a b o s) true := by
  unfold laws_eqView.f
  exact Ev.bind (eqIntS_ev a (by omega)) (Ev.pos rfl (Ev.bind (eqIntS_ev b (by omega)) (Ev.pos rfl (Ev.pos rfl (Ev.pos rfl (Ev.some rfl))))))
theorem view_mark (a b : List Int) (o s : Int) (ha : a.length ≤ 1048576) (hb : b.length ≤ 1048576) : Ev (fun k => laws_markView.f k a b o s 1) (1 + (a.length : Int) + b.length, ups 1 a.length, ups (1 + (a.length : Int)) b.length) := by
  unfold laws_markView.f
  exact Ev.bind (mark_ev a 1 (by omega) (by omega)) (Ev.bind (mark_ev b _ (by omega) (by omega)) (Ev.some rfl))
theorem view_held (a b : List Int) (o s : Int) (ha : a.length ≤ 1048576) (hb : b.length ≤ 1048576) : Ev (fun k => laws_heldView.f k (ups 1 a.length) (ups (1 + (a.length : Int)) b.length) o s 1) (1 + (a.length : Int) + b.length) := by
  unfold laws_heldView.f
  exact Ev.bind (held_ev a.length 1 (by omega) (by omega)) (Ev.neg (by omega) (Ev.bind (held_ev b.length _ (by omega) (by omega)) (Ev.neg (by omega) (Ev.some rfl))))
theorem view_to (a b : List Int) (o s : Int) (ha : a.length ≤ 1048576) (hb : b.length ≤ 1048576) : Ev (fun k => laws_toView.f k a b o s) (a, b, o, s) := by
  unfold laws_toView.f
  exact Ev.bind (toIntS_ev a (by omega)) (Ev.bind (toIntS_ev b (by omega)) (Ev.some rfl))
theorem sz_view (a b : List Int) (o s : Int) (m1 : a.length ≤ 9223372036854775807) (m2 : b.length ≤ 9223372036854775807) : ∃ n, laws_szView.f a b o s 1048576 = some n ∧ (0 ≤ n → a.length ≤ 1048576 ∧ b.length ≤ 1048576) := by
  unfold laws_szView.f laws_szIntS.f
  rw [wrap_id (by omega : -9223372036854775808 ≤ 1048576 - (a.length : Int)) (by omega)]
  by_cases h1 : (1048576 : Int) - (a.length : Int) < 0
  · rw [if_pos h1]
    exact ⟨-1, by simp, by omega⟩
  rw [if_neg h1]
  simp only [Option.bind_some]
  rw [if_neg h1, wrap_id (by omega : -9223372036854775808 ≤ 1048576 - (a.length : Int) - (b.length : Int)) (by omega)]
  by_cases h2 : (1048576 : Int) - (a.length : Int) - (b.length : Int) < 0
  · rw [if_pos h2]
    exact ⟨-1, by simp, by omega⟩
  rw [if_neg h2]
  exact ⟨(1048576 : Int) - (a.length : Int) - (b.length : Int), by simp [h2], by omega⟩
theorem view_none (dims ss : List Int) (off base : Int) : True := trivial
def orV (a b : List Int) (o s : Int) : List Int × List Int × Int × Int := if viewB a b o s = true then (a, b, o, s) else ([], [], 0, 0)
theorem orV_len (a b : List Int) (o s : Int) : (orV a b o s).1.length ≤ a.length ∧ (orV a b o s).2.1.length ≤ b.length := by
  unfold orV
  split
  · exact ⟨Nat.le_refl _, Nat.le_refl _⟩
  · exact ⟨Nat.zero_le _, Nat.zero_le _⟩
theorem implOr_ev (a b : List Int) (o s : Int) (h1 : a.length ≤ 9007199254740991) (h2 : b.length ≤ 9007199254740991) : Ev (fun k => (impl_ViewOk.f k a b o s).bind fun t2 => if t2 = true then some (a, b, o, s) else some ([], [], 0, 0)) (orV a b o s) := by
  unfold orV
  refine Ev.bind (view_ev a b o s (by omega) (by omega)).2 ?_
  by_cases z : viewB a b o s = true
  · rw [if_pos z, if_pos z]
    exact Ev.some rfl
  · rw [if_neg z, if_neg z]
    exact Ev.some rfl
theorem run_at {l : List Int} {n : Int} (h : runOk n l = true) : ∀ d ∈ l, 1 ≤ d ∧ d ≤ 4096 := run_all h
/-! ### lists of numbers below n, none twice -/
theorem pigeon : ∀ (n : Nat) (l : List Int), l.Nodup → (∀ a ∈ l, 0 ≤ a ∧ a < (n : Int)) → l.length ≤ n
  | 0, l, _, h => by
    cases l with
    | nil => simp
    | cons a t =>
      have := h a List.mem_cons_self
      omega
  | n + 1, l, hn, h => by
    have h1 := pigeon n (l.erase (n : Int)) (hn.erase _) (fun a ha => by
      rw [hn.mem_erase_iff] at ha
      have := h a ha.2
      have := ha.1
      omega)
    by_cases hm : (n : Int) ∈ l
    · rw [List.length_erase_of_mem hm] at h1
      omega
    · rw [List.erase_of_not_mem hm] at h1
      omega
theorem perm_idx : ∀ (n : Nat) (l : List Int), l.length = n → l.Nodup → (∀ a ∈ l, 0 ≤ a ∧ a < (n : Int)) → l.Perm ((List.range n).map (fun (j : Nat) => (j : Int)))
  | 0, l, hl, _, _ => by
    rw [List.length_eq_zero_iff.1 hl]
    exact List.Perm.refl _
  | n + 1, l, hl, hn, h => by
    have hm : (n : Int) ∈ l := by
      by_cases hm : (n : Int) ∈ l
      · exact hm
      · have := pigeon n l hn (fun a ha => by
          have := h a ha
          have : a ≠ (n : Int) := fun e => hm (e ▸ ha)
          omega)
        omega
    have ih := perm_idx n (l.erase (n : Int)) (by rw [List.length_erase_of_mem hm]; omega) (hn.erase _) (fun a ha => by
      rw [hn.mem_erase_iff] at ha
      have := h a ha.2
      have := ha.1
      omega)
    refine (List.perm_cons_erase hm).trans ((List.Perm.cons _ ih).trans ?_)
    rw [List.range_succ, List.map_append]
    exact (List.perm_append_comm (l₁ := [(n : Int)]) (l₂ := (List.range n).map (fun (j : Nat) => (j : Int))))
theorem idx_map {l : List Int} : (((List.range l.length).map (fun (j : Nat) => (j : Int))).map (fun a => rd l a)) = l := by
  apply List.ext_getElem
  · simp
  · intro i h1 h2
    simp only [List.getElem_map, List.getElem_range]
    exact rd_at h2
theorem prod_perm {a b : List Int} (h : a.Perm b) : prod a = prod b := by
  induction h with
  | nil => rfl
  | cons x _ ih => simp only [prod, ih]
  | swap x y l => simp only [prod]; rw [← Int.mul_assoc, ← Int.mul_assoc, Int.mul_comm x y]
  | trans _ _ i1 i2 => rw [i1, i2]
theorem sum_perm {f : Int → Int} {a b : List Int} (h : a.Perm b) : (a.map f).foldr (· + ·) 0 = (b.map f).foldr (· + ·) 0 := by
  induction h with
  | nil => rfl
  | cons x _ ih => simp only [List.map_cons, List.foldr_cons, ih]
  | swap x y l => simp only [List.map_cons, List.foldr_cons]; omega
  | trans _ _ i1 i2 => rw [i1, i2]
theorem loS_map (f g : Int → Int) : ∀ l : List Int, loS (l.map f) (l.map g) = (l.map (fun a => mn 0 (g a * (f a - 1)))).foldr (· + ·) 0
  | [] => rfl
  | a :: t => by simp only [List.map_cons, loS, List.foldr_cons, loS_map f g t]
theorem hiS_map (f g : Int → Int) : ∀ l : List Int, hiS (l.map f) (l.map g) = (l.map (fun a => mx 0 (g a * (f a - 1)))).foldr (· + ·) 0
  | [] => rfl
  | a :: t => by simp only [List.map_cons, hiS, List.foldr_cons, hiS_map f g t]
theorem prod_ge : ∀ {l : List Int}, (∀ d ∈ l, 1 ≤ d) → 1 ≤ prod l
  | [], _ => by simp [prod]
  | d :: t, h => by
    have h1 := h d List.mem_cons_self
    have h2 := prod_ge (l := t) (fun x hx => h x (List.mem_cons_of_mem _ hx))
    have := Int.mul_le_mul h1 h2 (by omega) (by omega)
    simp only [prod]
    omega
theorem run_of : ∀ {l : List Int} {n : Int}, 1 ≤ n → (∀ d ∈ l, 1 ≤ d ∧ d ≤ 4096) → n * prod l ≤ 4096 → runOk n l = true
  | [], _, _, _, _ => rfl
  | d :: t, n, hn, h, hp => by
    have h1 := h d List.mem_cons_self
    have h2 := prod_ge (l := t) (fun x hx => (h x (List.mem_cons_of_mem _ hx)).1)
    simp only [prod] at hp
    rw [← Int.mul_assoc] at hp
    have h3 : 1 * 1 ≤ n * d := Int.mul_le_mul hn h1.1 (by omega) (by omega)
    have h4 : n * d * 1 ≤ n * d * prod t := Int.mul_le_mul_of_nonneg_left h2 (by omega)
    unfold runOk
    rw [if_neg (by omega), if_neg (by omega), if_neg (by omega)]
    exact run_of (by omega) (fun x hx => h x (List.mem_cons_of_mem _ hx)) hp
/-- A view that can be, its axes in another order, is one. -/
theorem viewB_perm {dims ss : List Int} {off base : Int} (hv : viewB dims ss off base = true) (ax : List Int) (hl : ax.length = dims.length) (hn : ax.Nodup) (h : ∀ a ∈ ax, 0 ≤ a ∧ a < (dims.length : Int)) :
    viewB (ax.map (fun a => rd dims a)) (ax.map (fun a => rd ss a)) off base = true := by
  obtain ⟨q1, q2, q3, q4, q5, q6, q7, q8, q9, q10⟩ := viewB_true hv
  have P := perm_idx dims.length ax hl hn h
  have ed := idx_map (l := dims)
  have es := idx_map (l := ss)
  rw [q3] at es
  have hd : ∀ d ∈ ax.map (fun a => rd dims a), 1 ≤ d ∧ d ≤ 4096 := fun d hm => by
    have := (P.map (fun a => rd dims a)).mem_iff.1 hm
    rw [ed] at this
    exact run_all q2 d this
  have hs : ∀ s ∈ ax.map (fun a => rd ss a), -4096 ≤ s ∧ s ≤ 4096 := fun s hm => by
    have := (P.map (fun a => rd ss a)).mem_iff.1 hm
    rw [es] at this
    exact q8 s this
  have hp : prod (ax.map (fun a => rd dims a)) = prod dims := by
    rw [prod_perm (P.map (fun a => rd dims a)), ed]
  have hlo : loS (ax.map (fun a => rd dims a)) (ax.map (fun a => rd ss a)) = loS dims ss := by
    rw [loS_map, sum_perm P, ← loS_map, ed, es]
  have hhi : hiS (ax.map (fun a => rd dims a)) (ax.map (fun a => rd ss a)) = hiS dims ss := by
    rw [hiS_map, sum_perm P, ← hiS_map, ed, es]
  have hr := run_prod (n := 1) (by omega) (by omega) q2
  unfold viewB dimsB
  rw [run_of (by omega) hd (by rw [hp]; omega), hlo, hhi]
  have hsb : strB (ax.map (fun a => rd ss a)) = true := by
    unfold strB
    rw [List.all_eq_true]
    intro s hm
    have := hs s hm
    simp only [Bool.and_eq_true, decide_eq_true_eq]
    exact this
  rw [hsb]
  simp only [List.length_map, Bool.and_eq_true, decide_eq_true_eq, and_true, true_and]
  omega
/-- The reference's inner loop: is the axis among those ahead? -/
theorem sp_l1 (ax dims ss : List Int) (off base : Int) (W0 W1 : List Int) (i : Nat) (hi : i < ax.length) (hn : ax.length ≤ 6) (r : List Int × List Int × Int × Int)
    (hx : 0 ≤ ax[i] ∧ ax[i] < (dims.length : Int)) (hls : ss.length = dims.length) (h0 : W0.length ≤ 6) (h1 : W1.length ≤ 6) : ∀ (d j : Nat), i - j = d → j ≤ i →
    (if ax[i] ∈ (ax.take i).drop j then ([], [], 0, 0) = r else Ev (fun k => spec_Permute.l0 k ax ((i + 1 : Nat) : Int) dims ss off base (W0 ++ [rd dims ax[i]]) (W1 ++ [rd ss ax[i]]) off base) r) →
    Ev (fun k => spec_Permute.l1 k ax (i : Int) (j : Int) dims ss off base W0 W1 off base) r := by
  intro d
  induction d with
  | zero =>
    intro j hd hj h
    rw [List.drop_eq_nil_of_le (by rw [List.length_take]; omega), if_neg (by simp)] at h
    refine Ev.succ ?_
    simp only [spec_Permute.l1]
    rw [rd_at hi, up i hi (by omega)]
    exact Ev.neg (by omega) (Ev.pos (by omega) (Ev.pos (by omega) (Ev.pos hx.1 (Ev.pos hx.2 (Ev.pos (by omega) (Ev.pos (by omega) (Ev.pos (by omega) h)))))))
  | succ d ih =>
    intro j hd hj h
    have hlt : j < ax.length := by omega
    have ht : j < (ax.take i).length := by rw [List.length_take]; omega
    have e : (ax.take i)[j] = ax[j] := List.getElem_take
    rw [drop_at ht, e] at h
    refine Ev.succ ?_
    simp only [spec_Permute.l1]
    rw [rd_at hi, rd_at hlt, up j hlt (by omega)]
    refine Ev.pos (by omega) (Ev.pos (by omega) (Ev.pos (by omega) (Ev.pos (by omega) (Ev.pos (by omega) ?_))))
    by_cases z : ax[j] = ax[i]
    · rw [if_pos (by rw [z]; exact List.mem_cons_self)] at h
      exact Ev.pos z (Ev.some h)
    · refine Ev.neg z (ih (j + 1) (by omega) (by omega) ?_)
      by_cases y : ax[i] ∈ (ax.take i).drop (j + 1)
      · rw [if_pos (List.mem_cons_of_mem _ y)] at h
        rw [if_pos y]
        exact h
      · rw [if_neg (by rw [List.mem_cons]; rintro (w | w); exact z w.symm; exact y w)] at h
        rw [if_neg y]
        exact h
/-- Both, axis by axis. -/
theorem pm_go (ax dims ss : List Int) (off base : Int) (hl : dims.length ≤ 6) (hax : ax.length = dims.length) (hls : ss.length = dims.length) : ∀ (d i : Nat), ax.length - i = d → i ≤ ax.length →
    ∃ r : Bool × List Int × List Int, Ev (fun k => impl_Permute.go k dims ss ax d i ((ax.take i).map (fun a => rd dims a) ++ dims.drop i) ((ax.take i).map (fun a => rd ss a) ++ ss.drop i)) r ∧
      Ev (fun k => spec_Permute.l0 k ax (i : Int) dims ss off base ((ax.take i).map (fun a => rd dims a)) ((ax.take i).map (fun a => rd ss a)) off base) (if r.1 = true then (r.2.1, r.2.2, off, base) else ([], [], 0, 0)) ∧
      (r.1 = true → r.2.1 = ax.map (fun a => rd dims a) ∧ r.2.2 = ax.map (fun a => rd ss a) ∧ ∀ (j : Nat) (h : j < ax.length), i ≤ j → 0 ≤ ax[j] ∧ ax[j] < (dims.length : Int) ∧ ax[j] ∉ ax.take j) := by
  intro d
  induction d with
  | zero =>
    intro i hd hi
    obtain rfl : i = ax.length := by omega
    rw [List.take_length, List.drop_eq_nil_of_le (by omega), List.drop_eq_nil_of_le (by omega), List.append_nil, List.append_nil]
    refine ⟨(true, ax.map (fun a => rd dims a), ax.map (fun a => rd ss a)), ?_, ?_, ?_⟩
    · exact Ev.some rfl
    · refine Ev.succ ?_
      simp only [spec_Permute.l0]
      exact Ev.neg (by omega) (Ev.some rfl)
    · exact fun _ => ⟨rfl, rfl, fun j h hj => by omega⟩
  | succ d ih =>
    intro i hd hi
    have hlt : i < ax.length := by omega
    have s0 : ∀ r, Ev (fun k => spec_Permute.j2 k ax (i : Int) (if ax[i] < 0 then true else decide (ax[i] ≥ (ax.length : Int))) dims ss off base ((ax.take i).map (fun a => rd dims a)) ((ax.take i).map (fun a => rd ss a)) off base) r →
        Ev (fun k => spec_Permute.l0 k ax (i : Int) dims ss off base ((ax.take i).map (fun a => rd dims a)) ((ax.take i).map (fun a => rd ss a)) off base) r := by
      intro r h
      refine Ev.succ ?_
      simp only [spec_Permute.l0]
      rw [rd_at hlt]
      refine Ev.pos (by omega) (Ev.pos (by omega) ?_)
      by_cases z : ax[i] < 0
      · rw [if_pos z] at h
        exact Ev.pos z h
      · rw [if_neg z] at h
        exact Ev.neg z h
    by_cases hx : 0 ≤ ax[i] ∧ ax[i] < (dims.length : Int)
    · have eb : (if ax[i] < 0 then true else decide (ax[i] ≥ (ax.length : Int))) = false := by
        rw [if_neg (by omega)]
        exact decide_eq_false (by omega)
      rw [eb] at s0
      have lt0 : ((ax.take i).map (fun a => rd dims a)).length = i := by rw [List.length_map, List.length_take]; omega
      have lt1 : ((ax.take i).map (fun a => rd ss a)).length = i := by rw [List.length_map, List.length_take]; omega
      have s1 : ∀ r, (if ax[i] ∈ ax.take i then ([], [], 0, 0) = r else Ev (fun k => spec_Permute.l0 k ax ((i + 1 : Nat) : Int) dims ss off base ((ax.take i).map (fun a => rd dims a) ++ [rd dims ax[i]]) ((ax.take i).map (fun a => rd ss a) ++ [rd ss ax[i]]) off base) r) →
          Ev (fun k => spec_Permute.l0 k ax (i : Int) dims ss off base ((ax.take i).map (fun a => rd dims a)) ((ax.take i).map (fun a => rd ss a)) off base) r := by
        intro r h
        refine s0 r (Ev.succ ?_)
        simp only [spec_Permute.j2]
        refine Ev.neg (by simp) ?_
        exact sp_l1 ax dims ss off base _ _ i hlt (by omega) r hx hls (by omega) (by omega) i 0 (by omega) (by omega) (by rw [List.drop_zero]; exact h)
      by_cases hm : ax[i] ∈ ax.take i
      · refine ⟨(false, (ax.take i).map (fun a => rd dims a) ++ dims.drop i, (ax.take i).map (fun a => rd ss a) ++ ss.drop i), ?_, s1 _ (by rw [if_pos hm]; rfl), fun h => (by cases h)⟩
        simp only [impl_Permute.go]
        rw [rd_at hlt]
        refine Ev.pos hx (Ev.bind (contains_ev _ _ (by rw [List.length_take]; omega)) (Ev.pos (decide_eq_true hm) (Ev.some rfl)))
      · obtain ⟨r, r1, r2, r3⟩ := ih (i + 1) (by omega) (by omega)
        have et : ax.take (i + 1) = ax.take i ++ [ax[i]] := List.take_succ_eq_append_getElem hlt
        rw [et, List.map_append, List.map_append] at r1 r2
        simp only [List.map_cons, List.map_nil] at r1 r2
        refine ⟨r, ?_, s1 _ (by rw [if_neg hm]; exact r2), fun h => ?_⟩
        · simp only [impl_Permute.go]
          rw [rd_at hlt]
          refine Ev.pos hx (Ev.bind (contains_ev _ _ (by rw [List.length_take]; omega)) (Ev.neg (by simp only [decide_eq_true_eq]; exact hm) ?_))
          have e0 : ((ax.take i).map (fun a => rd dims a) ++ dims.drop i).set i (rd dims ax[i]) = (ax.take i).map (fun a => rd dims a) ++ [rd dims ax[i]] ++ dims.drop (i + 1) := by
            rw [List.set_append_right _ _ (by omega), lt0, Nat.sub_self, drop_at (show i < dims.length by omega), List.set_cons_zero, List.append_assoc]
            rfl
          have e1 : ((ax.take i).map (fun a => rd ss a) ++ ss.drop i).set i (rd ss ax[i]) = (ax.take i).map (fun a => rd ss a) ++ [rd ss ax[i]] ++ ss.drop (i + 1) := by
            rw [List.set_append_right _ _ (by omega), lt1, Nat.sub_self, drop_at (show i < ss.length by omega), List.set_cons_zero, List.append_assoc]
            rfl
          rw [e0, e1]
          exact r1
        · obtain ⟨t1, t2, t3⟩ := r3 h
          refine ⟨t1, t2, fun j hj hij => ?_⟩
          by_cases hji : j = i
          · subst hji
            exact ⟨hx.1, hx.2, hm⟩
          · exact t3 j hj (by omega)
    · have eb : (if ax[i] < 0 then true else decide (ax[i] ≥ (ax.length : Int))) = true := by
        by_cases z : ax[i] < 0
        · rw [if_pos z]
        · rw [if_neg z]
          exact decide_eq_true (by omega)
      rw [eb] at s0
      refine ⟨(false, (ax.take i).map (fun a => rd dims a) ++ dims.drop i, (ax.take i).map (fun a => rd ss a) ++ ss.drop i), ?_, s0 _ (Ev.succ ?_), fun h => (by cases h)⟩
      · simp only [impl_Permute.go]
        rw [rd_at hlt]
        exact Ev.neg hx (Ev.some rfl)
      · simp only [spec_Permute.j2]
        exact Ev.pos (by simp) (Ev.some rfl)
theorem permute_both (dims ss : List Int) (off base : Int) (ax : List Int) (h1 : dims.length ≤ 1048576) (h2 : ss.length ≤ 1048576) :
    ∃ x y o s, Ev (fun k => spec_Permute.f k dims ss off base ax) (x, y, o, s) ∧ Ev (fun k => impl_Permute.f k dims ss off base ax) (x, y, o, s) ∧ x.length ≤ 1048576 ∧ y.length ≤ 1048576 := by
  obtain ⟨e1, e2⟩ := view_ev dims ss off base (by omega) (by omega)
  have c1 := clone_f dims (by omega)
  have c2 := clone_f ss (by omega)
  have no : ∀ l0 l1 o t, Ev (fun k => spec_Permute.j0 k ax true l0 l1 o t) (([], [], 0, 0) : List Int × List Int × Int × Int) := by
    intro l0 l1 o t
    refine Ev.succ ?_
    simp only [spec_Permute.j0]
    exact Ev.pos (by simp) (Ev.some rfl)
  cases hv : viewB dims ss off base with
  | false =>
    rw [hv] at e1 e2
    refine ⟨[], [], 0, 0, ?_, ?_, by simp, by simp⟩
    · unfold spec_Permute.f
      exact Ev.bind e1 (Ev.neg (by simp) (no _ _ _ _))
    · unfold impl_Permute.f
      exact Ev.bind e2 (Ev.neg (by simp) (Ev.some rfl))
  | true =>
    have hv0 := hv
    rw [hv] at e1 e2
    obtain ⟨q1, q2, q3, q4, q5, q6, q7, q8, q9, q10⟩ := viewB_true hv
    by_cases hax : ax.length = dims.length
    · obtain ⟨r, r1, r2, r3⟩ := pm_go ax dims ss off base q1 hax q3 ax.length 0 (by omega) (by omega)
      rw [List.take_zero, List.map_nil, List.map_nil, List.drop_zero, List.drop_zero, List.nil_append, List.nil_append] at r1
      rw [List.take_zero, List.map_nil, List.map_nil] at r2
      have sp : ∀ q, Ev (fun k => spec_Permute.l0 k ax ((0 : Nat) : Int) dims ss off base [] [] off base) q → Ev (fun k => spec_Permute.f k dims ss off base ax) q := by
        intro q h
        unfold spec_Permute.f
        refine Ev.bind e1 (Ev.pos (by simp) ?_)
        rw [show ((ax.length : Int) != (dims.length : Int)) = false by rw [hax]; simp]
        refine Ev.succ ?_
        simp only [spec_Permute.j0]
        exact Ev.neg (by simp) h
      have im : Ev (fun k => impl_Permute.by k dims ss off base ax) (r.1, r.2.1, r.2.2, off, base) := by
        unfold impl_Permute.by
        exact Ev.neg (by omega) (Ev.neg (by omega) (Ev.bind r1 (Ev.some rfl)))
      cases hb : r.1 with
      | false =>
        rw [hb] at r2 im
        refine ⟨[], [], 0, 0, sp _ (by rw [if_neg (by simp)] at r2; exact r2), ?_, by simp, by simp⟩
        unfold impl_Permute.f
        exact Ev.bind e2 (Ev.pos (by simp) (Ev.b c1 (Ev.b c2 (Ev.bind im (Ev.neg (by simp) (Ev.some rfl))))))
      | true =>
        obtain ⟨t1, t2, t3⟩ := r3 hb
        rw [hb] at r2 im
        rw [t1, t2] at r2 im
        have hm : ∀ a ∈ ax, 0 ≤ a ∧ a < (dims.length : Int) := fun a ha => by
          obtain ⟨j, hj, rfl⟩ := List.getElem_of_mem ha
          have := t3 j hj (by omega)
          exact ⟨this.1, this.2.1⟩
        have hn : ax.Nodup := by
          unfold List.Nodup
          rw [List.pairwise_iff_getElem]
          intro i j hi hj hij e
          refine (t3 j hj (by omega)).2.2 ?_
          rw [← e]
          exact List.mem_take_iff_getElem.2 ⟨i, by omega, rfl⟩
        have vb := viewB_perm hv0 ax hax hn hm
        have v2 := (view_ev (ax.map (fun a => rd dims a)) (ax.map (fun a => rd ss a)) off base (by simp; omega) (by simp; omega)).2
        rw [vb] at v2
        refine ⟨ax.map (fun a => rd dims a), ax.map (fun a => rd ss a), off, base, sp _ (by rw [if_pos rfl] at r2; exact r2), ?_, by simp; omega, by simp; omega⟩
        unfold impl_Permute.f
        exact Ev.bind e2 (Ev.pos (by simp) (Ev.b c1 (Ev.b c2 (Ev.bind im (Ev.pos rfl (Ev.bind v2 (Ev.pos rfl (Ev.some rfl))))))))
    · refine ⟨[], [], 0, 0, ?_, ?_, by simp, by simp⟩
      · unfold spec_Permute.f
        refine Ev.bind e1 (Ev.pos (by simp) ?_)
        rw [show ((ax.length : Int) != (dims.length : Int)) = true by simp; omega]
        exact no _ _ _ _
      · unfold impl_Permute.f
        refine Ev.bind e2 (Ev.pos (by simp) (Ev.b c1 (Ev.b c2 (Ev.bind (a := (false, dims, ss, off, base)) ?_ (Ev.neg (by simp) (Ev.some rfl))))))
        unfold impl_Permute.by
        exact Ev.pos hax (Ev.some rfl)
theorem FnExactPermute (dims ss : List Int) (off base : Int) (ax : List Int) {g1 g2 : Int → Prop} {G : Prop} (hg : (dims.length ≤ maxLen ∧ ∀ y ∈ dims, g1 y) ∧ (ss.length ≤ maxLen ∧ ∀ y ∈ ss, g2 y) ∧ G) : ∃ k, laws_FnExactPermute.f k dims ss off base ax = some true := by
  apply Ev.rounds
  unfold laws_FnExactPermute.f
  refine Ev.ite (fun _ => Ev.some rfl) (fun h3 => ?_)
  obtain ⟨n, hn, hn2⟩ := sz_view dims ss off base hg.1.1 hg.2.1.1
  refine Ev.b hn (Ev.ite (fun _ => Ev.some rfl) (fun h => ?_))
  obtain ⟨h1, h2⟩ := hn2 (by omega)
  have tv := view_to dims ss off base h1 h2
  have ve := view_eq dims ss off base h1 h2
  have ta := toIntS_ev ax (by omega)
  have ea := eqIntS_ev ax (by omega)
  obtain ⟨a, b, o, s, hs, hi, ha, hb⟩ := permute_both dims ss off base ax h1 h2
  have we := view_eq a b o s ha hb
  refine Ev.bind tv (Ev.bind ta (Ev.bind hs (Ev.bind tv (Ev.bind ta (Ev.bind hi (Ev.bind we (Ev.pos rfl (Ev.bind tv (Ev.bind ve (Ev.pos rfl (Ev.bind ta (Ev.bind ea (Ev.pos rfl (Ev.bind (view_mark dims ss off base h1 h2) (Ev.bind (mark_ev ax _ (by omega) (by omega)) (Ev.neg (by simp; omega) (Ev.bind we ?_)))))))))))))))))
  refine Ev.succ ?_
  simp only [laws_FnExactPermute.j0]
  have hh := view_held a b o s ha hb
  exact Ev.neg (by simp) (Ev.bind (view_mark a b o s ha hb) (Ev.bind hh (Ev.neg (by omega) (Ev.pos rfl (Ev.bind tv (Ev.bind ta (Ev.bind hi (Ev.bind we (Ev.pos rfl (Ev.bind hh (Ev.neg (by omega) (Ev.pos rfl (Ev.some rfl)))))))))))))
end Go.Proofs.Ytpoblnigmfbnfac.PureFnExactPermute
