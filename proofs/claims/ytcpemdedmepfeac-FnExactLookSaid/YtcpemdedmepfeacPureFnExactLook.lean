/- Looking through a view at a tensor: the program's own answer is the reference's. -/
import Derived.Test.YtcpemdedmepfeacPFnExactLookx
import Derived.Test.YtcpemdedmepfeacBase
import Derived.Test.YtcpemdedmepfeacVM
namespace Go.Proofs.Ytcpemdedmepfeac.PureFnExactLook
set_option linter.unusedVariables false
set_option linter.unusedSimpArgs false
open Go.RowKit Go.Proofs.Ytcpemdedmepfeac.PFnExactLook Go.Proofs.YtcpemdedmepfeacW.PrintWords Go.Proofs.YtcpemdedmepfeacW.PrintLast Go.Proofs.YtcpemdedmepfeacW.PrintMore Go.Proofs.Ytcpemdedmepfeac.Base Go.Proofs.Ytcpemdedmepfeac.VM
/-! ### lists of whole numbers taken over and held against each other -/
theorem toIntS_l (l : List Int) (hn : l.length ≤ 9223372036854775807) : ∀ (d i : Nat), l.length - i = d → i ≤ l.length → Ev (fun k => laws_toIntS.l0 k l (l.take i ++ List.replicate (l.length - i) 0) (i : Int)) l := by
  intro d
  induction d with
  | zero =>
    intro i hd hi
    refine Ev.succ ?_
    simp only [laws_toIntS.l0]
    refine Ev.neg (by omega) (Ev.some ?_)
    rw [hd, List.take_of_length_le (by omega)]
    simp
  | succ d ih =>
    intro i hd hi
    refine Ev.succ ?_
    simp only [laws_toIntS.l0]
    have hlt : i < l.length := by omega
    refine Ev.pos (by omega) (Ev.pos (by omega) (Ev.pos (by simp; omega) ?_))
    rw [rd_at hlt, up i hlt hn, Int.toNat_natCast, set_copy hlt]
    exact ih (i + 1) (by omega) (by omega)
theorem toIntS_ev (l : List Int) (h : l.length ≤ 35184372088832) : Ev (fun k => laws_toIntS.f k l) l := by
  unfold laws_toIntS.f
  refine Ev.pos (by omega) (Ev.pos (by omega) ?_)
  have := toIntS_l l (by omega) l.length 0 (by omega) (by omega)
  simpa using this
theorem eqIntS_l (l : List Int) (hn : l.length ≤ 9223372036854775807) : ∀ (d i : Nat), l.length - i = d → i ≤ l.length → Ev (fun k => laws_eqIntS.l0 k l l (i : Int)) true := by
  intro d
  induction d with
  | zero =>
    intro i hd hi
    refine Ev.succ ?_
    simp only [laws_eqIntS.l0]
    exact Ev.neg (by omega) (Ev.some rfl)
  | succ d ih =>
    intro i hd hi
    refine Ev.succ ?_
    simp only [laws_eqIntS.l0]
    have hlt : i < l.length := by omega
    refine Ev.pos (by omega) (Ev.pos (by omega) (Ev.pos (by omega) (Ev.pos (by trivial) ?_)))
    rw [up i hlt hn]
    exact ih (i + 1) (by omega) (by omega)
theorem eqIntS_ev (l : List Int) (h : l.length ≤ 9223372036854775807) : Ev (fun k => laws_eqIntS.f k l l) true := by
  unfold laws_eqIntS.f
  exact Ev.pos rfl (eqIntS_l l (by omega) l.length 0 (by omega) (by omega))
/-! ### lengths -/
theorem size_l (l : List Int) (hn : l.length ≤ 9223372036854775807) : ∀ (d i : Nat) (n : Int), l.length - i = d → i ≤ l.length → 1 ≤ n → n ≤ 4096 → Ev (fun k => spec_l3Size.l0 k l n (i : Int)) (if runOk n (l.drop i) = true then n * prod (l.drop i) else 0) := by
  intro d
  induction d with
  | zero =>
    intro i n hd hi h0 h1
    refine Ev.succ ?_
    simp only [spec_l3Size.l0]
    refine Ev.neg (by omega) (Ev.some ?_)
    rw [List.drop_eq_nil_of_le (by omega)]
    simp [runOk, prod]
  | succ d ih =>
    intro i n hd hi h0 h1
    have hlt : i < l.length := by omega
    refine Ev.succ ?_
    simp only [spec_l3Size.l0]
    refine Ev.pos (by omega) (Ev.pos (by omega) ?_)
    rw [rd_at hlt, drop_at hlt]
    refine Ev.ite (fun h => Ev.succ ?_) (fun h => Ev.succ ?_)
    · simp only [spec_l3Size.j1]
      refine Ev.pos (by trivial) (Ev.some ?_)
      simp [runOk, h]
    · simp only [spec_l3Size.j1]
      by_cases h2 : 4096 < l[i]
      · refine Ev.pos (by simpa using h2) (Ev.some ?_)
        simp [runOk, h, h2]
      · have p1 : n * l[i] ≤ 4096 * 4096 := Int.mul_le_mul h1 (by omega) (by omega) (by omega)
        have p0 : 1 * 1 ≤ n * l[i] := Int.mul_le_mul h0 (by omega) (by omega) (by omega)
        refine Ev.neg (by simpa using h2) (Ev.pos (by omega) (Ev.pos (by omega) ?_))
        rw [rd_at hlt, wrap_id (by omega : -9223372036854775808 ≤ n * l[i]) (by omega), up i hlt hn]
        refine Ev.ite (fun h3 => Ev.some ?_) (fun h3 => ?_)
        · simp [runOk, h, h2, show 4096 < n * l[i] from h3]
        · have e : runOk n (l[i] :: l.drop (i + 1)) = runOk (n * l[i]) (l.drop (i + 1)) := by
            simp [runOk, h, h2, show ¬ 4096 < n * l[i] from h3]
          rw [e]
          simp only [prod]
          rw [← Int.mul_assoc]
          exact ih (i + 1) _ (by omega) (by omega) (by omega) (by omega)
theorem size_ev (l : List Int) (hn : l.length ≤ 9223372036854775807) : Ev (fun k => spec_l3Size.f k l) (if runOk 1 l = true then prod l else 0) := by
  have := size_l l hn l.length 0 1 (by omega) (by omega) (by omega) (by omega)
  rw [Int.one_mul] at this
  exact this
/-- Lengths that can be. -/
def dimsB (l : List Int) : Bool := decide (l.length ≤ 6) && runOk 1 l
theorem sdims_ev (l : List Int) (hn : l.length ≤ 9223372036854775807) : Ev (fun k => spec_DimsOk.f k l) (dimsB l) := by
  unfold spec_DimsOk.f dimsB
  refine Ev.ite (fun h => Ev.bind (size_ev l hn) (Ev.some ?_)) (fun h => Ev.some ?_)
  · rw [show decide (l.length ≤ 6) = true from decide_eq_true (by omega), Bool.true_and]
    cases hr : runOk 1 l with
    | true =>
      have := prod_pos hr
      simp
      omega
    | false => simp
  · rw [show decide (l.length ≤ 6) = false from decide_eq_false (by omega)]
    rfl
theorem idims_l (l : List Int) (hn : l.length ≤ 9223372036854775807) : ∀ (d i : Nat) (n : Int), l.length - i = d → i ≤ l.length → 1 ≤ n → n ≤ 4096 → Ev (fun k => impl_DimsOk.l0 k l n l (l.length : Int) (i : Int)) (decide (l.length ≤ 6) && runOk n (l.drop i)) := by
  intro d
  induction d with
  | zero =>
    intro i n hd hi h0 h1
    refine Ev.succ ?_
    simp only [impl_DimsOk.l0]
    refine Ev.neg (by omega) (Ev.some ?_)
    rw [List.drop_eq_nil_of_le (by omega)]
    simp only [runOk, Bool.and_true]
    exact decide_eq_decide.2 (by omega)
  | succ d ih =>
    intro i n hd hi h0 h1
    have hlt : i < l.length := by omega
    refine Ev.succ ?_
    simp only [impl_DimsOk.l0]
    refine Ev.pos (by omega) (Ev.pos (by omega) (Ev.pos (by omega) ?_))
    rw [rd_at hlt, drop_at hlt]
    refine Ev.ite (fun h => Ev.succ ?_) (fun h => Ev.succ ?_)
    · simp only [impl_DimsOk.j1]
      refine Ev.pos (by trivial) (Ev.some ?_)
      simp [runOk, h]
    · simp only [impl_DimsOk.j1]
      by_cases h2 : 4096 < l[i]
      · refine Ev.pos (by simpa using h2) (Ev.some ?_)
        simp [runOk, h, h2]
      · have p1 : n * l[i] ≤ 4096 * 4096 := Int.mul_le_mul h1 (by omega) (by omega) (by omega)
        have p0 : 1 * 1 ≤ n * l[i] := Int.mul_le_mul h0 (by omega) (by omega) (by omega)
        refine Ev.neg (by simpa using h2) ?_
        rw [wrap_id (by omega : -9223372036854775808 ≤ n * l[i]) (by omega), up i hlt hn]
        refine Ev.ite (fun h3 => Ev.some ?_) (fun h3 => ?_)
        · simp [runOk, h, h2, show 4096 < n * l[i] from h3]
        · have e : runOk n (l[i] :: l.drop (i + 1)) = runOk (n * l[i]) (l.drop (i + 1)) := by
            simp [runOk, h, h2, show ¬ 4096 < n * l[i] from h3]
          rw [e]
          exact ih (i + 1) _ (by omega) (by omega) (by omega) (by omega)
theorem idims_ev (l : List Int) (hn : l.length ≤ 9223372036854775807) : Ev (fun k => impl_DimsOk.f k l) (dimsB l) := idims_l l hn l.length 0 1 (by omega) (by omega) (by omega) (by omega)
theorem product_l (l : List Int) (hn : l.length ≤ 9223372036854775807) : ∀ (d i : Nat) (n : Int), l.length - i = d → i ≤ l.length → 1 ≤ n → n ≤ 4096 → runOk n (l.drop i) = true → Ev (fun k => impl_product.l0 k n l (l.length : Int) (i : Int)) (n * prod (l.drop i)) := by
  intro d
  induction d with
  | zero =>
    intro i n hd hi h0 h1 hr
    refine Ev.succ ?_
    simp only [impl_product.l0]
    refine Ev.neg (by omega) (Ev.some ?_)
    rw [List.drop_eq_nil_of_le (by omega)]
    simp [prod]
  | succ d ih =>
    intro i n hd hi h0 h1 hr
    have hlt : i < l.length := by omega
    rw [drop_at hlt] at hr ⊢
    obtain ⟨h2, h3, h4, h5⟩ := runOk_cons hr
    have p0 : 1 * 1 ≤ n * l[i] := Int.mul_le_mul h0 h2 (by omega) (by omega)
    refine Ev.succ ?_
    simp only [impl_product.l0]
    refine Ev.pos (by omega) (Ev.pos (by omega) (Ev.pos (by omega) ?_))
    rw [rd_at hlt, up i hlt hn, wrap_id (by omega : -9223372036854775808 ≤ n * l[i]) (by omega)]
    simp only [prod]
    rw [← Int.mul_assoc]
    exact ih (i + 1) _ (by omega) (by omega) (by omega) h4 h5
theorem product_ev (l : List Int) (hn : l.length ≤ 9223372036854775807) (hr : runOk 1 l = true) : Ev (fun k => impl_product.f k l) (prod l) := by
  have := product_l l hn l.length 0 1 (by omega) (by omega) (by omega) (by omega) hr
  rw [Int.one_mul] at this
  exact this
/-! ### indexes in order, and their places -/
theorem index_l (l : List Int) (hn : l.length ≤ 6) (hd : ∀ d ∈ l, 1 ≤ d) (k0 : Int) (hk : 0 ≤ k0) (hk' : k0 ≤ 9223372036854775807) : ∀ (i : Nat), i ≤ l.length →
    Ev (fun k => spec_l3Index.l0 k l (idxs (l.drop i) k0).2 (List.replicate i 0 ++ (idxs (l.drop i) k0).1) ((i : Int) - 1)) (idxs l k0).1 := by
  intro i
  induction i with
  | zero =>
    intro hi
    refine Ev.succ ?_
    simp only [spec_l3Index.l0]
    refine Ev.neg (by omega) (Ev.some ?_)
    simp
  | succ i ih =>
    intro hi
    have hlt : i < l.length := by omega
    have hdi := hd _ (List.getElem_mem hlt)
    have hnn : 0 ≤ (idxs (l.drop (i + 1)) k0).2 := idxs_nonneg (fun d hm => hd d (List.mem_of_mem_drop hm)) hk
    have hle : (idxs (l.drop (i + 1)) k0).2 ≤ k0 := by
      have o := ord_idxs (ds := l.drop (i + 1)) (fun d hm => hd d (List.mem_of_mem_drop hm)) hk
      obtain ⟨o1, o2⟩ := ord_lt (ds := l.drop (i + 1)) (fun d hm => hd d (List.mem_of_mem_drop hm)) (idxs_in (fun d hm => hd d (List.mem_of_mem_drop hm)) hk)
      have p : (idxs (l.drop (i + 1)) k0).2 * 1 ≤ (idxs (l.drop (i + 1)) k0).2 * prod (l.drop (i + 1)) := Int.mul_le_mul_of_nonneg_left (by omega) hnn
      omega
    have hq : 0 ≤ (idxs (l.drop (i + 1)) k0).2 / l[i] := Int.ediv_nonneg hnn (by omega)
    have hq' : (idxs (l.drop (i + 1)) k0).2 / l[i] ≤ (idxs (l.drop (i + 1)) k0).2 := Int.ediv_le_self _ hnn
    refine Ev.succ ?_
    simp only [spec_l3Index.l0]
    have e1 : ((i + 1 : Nat) : Int) - 1 = (i : Int) := by omega
    rw [e1]
    refine Ev.pos (by omega) (Ev.pos (by omega) (Ev.pos (by omega) ?_))
    rw [rd_at hlt]
    refine Ev.neg (by omega) (Ev.pos (by simp [idxs_len]; omega) ?_)
    rw [wrap_id (by omega : -9223372036854775808 ≤ (i : Int) - 1) (by omega), Int.tdiv_eq_ediv_of_nonneg hnn, Int.tmod_eq_emod_of_nonneg hnn, wrap_id (by omega : -9223372036854775808 ≤ (idxs (l.drop (i + 1)) k0).2 / l[i]) (by omega), Int.toNat_natCast]
    have ih := ih (by omega)
    rw [drop_at hlt] at ih
    simp only [idxs] at ih
    have e2 : (List.replicate (i + 1) (0 : Int) ++ (idxs (l.drop (i + 1)) k0).1).set i ((idxs (l.drop (i + 1)) k0).2 % l[i]) = List.replicate i 0 ++ ((idxs (l.drop (i + 1)) k0).2 % l[i] :: (idxs (l.drop (i + 1)) k0).1) := by
      rw [show List.replicate (i + 1) (0 : Int) = List.replicate i 0 ++ [0] from List.replicate_succ', List.append_assoc, List.set_append_right _ _ (by simp)]
      simp
    rw [e2]
    exact ih
theorem index_ev (l : List Int) (hn : l.length ≤ 6) (hd : ∀ d ∈ l, 1 ≤ d) (k0 : Int) (hk : 0 ≤ k0) (hk' : k0 ≤ 9223372036854775807) : Ev (fun k => spec_l3Index.f k l k0) (idxs l k0).1 := by
  unfold spec_l3Index.f
  refine Ev.pos (by omega) (Ev.pos (by omega) ?_)
  have := index_l l hn hd k0 hk hk' l.length (by omega)
  rw [List.drop_length] at this
  simp only [idxs, List.append_nil] at this
  rw [wrap_id (by omega) (by omega)]
  exact this
theorem place_l (dims ss : List Int) (off base : Int) (xs : List Int) (hl : xs.length ≤ ss.length) (hx : xs.length ≤ 6) (hb : ∀ (i : Nat) (h1 : i < xs.length) (h2 : i < ss.length), -16777216 ≤ xs[i] * ss[i] ∧ xs[i] * ss[i] ≤ 16777216) :
    ∀ (d i : Nat) (p : Int), xs.length - i = d → i ≤ xs.length → -4096 - 16777216 * i ≤ p → p ≤ 4096 + 16777216 * i → Ev (fun k => spec_l3Place.l0 k xs p (i : Int) dims ss off base) (p + dot (xs.drop i) (ss.drop i)) := by
  intro d
  induction d with
  | zero =>
    intro i p hd hi h0 h1
    refine Ev.succ ?_
    simp only [spec_l3Place.l0]
    refine Ev.neg (by omega) (Ev.some ?_)
    rw [List.drop_eq_nil_of_le (by omega)]
    simp [dot]
  | succ d ih =>
    intro i p hd hi h0 h1
    have hlt : i < xs.length := by omega
    have hlt' : i < ss.length := by omega
    have b := hb i hlt hlt'
    refine Ev.succ ?_
    simp only [spec_l3Place.l0]
    refine Ev.pos (by omega) (Ev.pos (by omega) (Ev.pos (by omega) ?_))
    rw [rd_at hlt, rd_at hlt', wrap_id (by omega : -9223372036854775808 ≤ xs[i] * ss[i]) (by omega), wrap_id (by omega : -9223372036854775808 ≤ p + xs[i] * ss[i]) (by omega), up i hlt (by omega), drop_at hlt, drop_at hlt']
    simp only [dot]
    rw [← Int.add_assoc]
    exact ih (i + 1) _ (by omega) (by omega) (by omega) (by omega)
theorem in_bound : ∀ {ds xs : List Int}, (∀ d ∈ ds, d ≤ 4096) → inD ds xs → ∀ (i : Nat) (h : i < xs.length), 0 ≤ xs[i] ∧ xs[i] < 4096
  | [], [], _, _, i, h => by simp at h
  | d :: ds, x :: xs, hd, hi, i, h => by
    cases i with
    | zero =>
      have := hd d List.mem_cons_self
      obtain ⟨h1, h2, _⟩ := hi
      simp
      omega
    | succ i =>
      simp only [List.getElem_cons_succ]
      exact in_bound (fun e he => hd e (List.mem_cons_of_mem _ he)) hi.2.2 i (by simpa using h)
  | [], _ :: _, _, h, _, _ => h.elim
  | _ :: _, [], _, h, _, _ => h.elim
theorem mul_bound {x s : Int} (h0 : 0 ≤ x) (h1 : x < 4096) (h2 : -4096 ≤ s) (h3 : s ≤ 4096) : -16777216 ≤ x * s ∧ x * s ≤ 16777216 := by
  have p1 : x * s ≤ x * 4096 := Int.mul_le_mul_of_nonneg_left h3 h0
  have p2 : x * (-4096) ≤ x * s := Int.mul_le_mul_of_nonneg_left h2 h0
  omega
theorem place_ev (dims ss : List Int) (off base : Int) (xs : List Int) (hin : inD dims xs) (hd : ∀ d ∈ dims, d ≤ 4096) (hl : dims.length ≤ 6) (hls : ss.length = dims.length) (hs : ∀ s ∈ ss, -4096 ≤ s ∧ s ≤ 4096) (h0 : 0 ≤ off) (h1 : off ≤ 4096) : Ev (fun k => spec_l3Place.f k dims ss off base xs) (off + dot xs ss) := by
  have hx := inD_len hin
  have := place_l dims ss off base xs (by omega) (by omega) (fun i a b => by
    have x := in_bound hd hin i a
    have s := hs _ (List.getElem_mem b)
    exact mul_bound x.1 x.2 s.1 s.2) xs.length 0 off (by omega) (by omega) (by omega) (by omega)
  exact this
theorem all_l (dims ss : List Int) (off base : Int) (hr : runOk 1 dims = true) (hl : dims.length ≤ 6) (hls : ss.length = dims.length) (hs : ∀ s ∈ ss, -4096 ≤ s ∧ s ≤ 4096) (h0 : 0 ≤ off) (h1 : off ≤ 4096) :
    ∀ (d i : Nat), (prod dims).toNat - i = d → i ≤ (prod dims).toNat → Ev (fun k => spec_l3All.l0 k ((List.range i).map (plc dims ss off)) (prod dims) (i : Int) dims ss off base) (plcs dims ss off) := by
  have hp := prod_pos hr
  have hp' := run_prod (n := 1) (by omega) (by omega) hr
  intro d
  induction d with
  | zero =>
    intro i hd hi
    refine Ev.succ ?_
    simp only [spec_l3All.l0]
    refine Ev.neg (by omega) (Ev.some ?_)
    rw [show i = (prod dims).toNat by omega]
    rfl
  | succ d ih =>
    intro i hd hi
    refine Ev.succ ?_
    simp only [spec_l3All.l0]
    have ha := run_all hr
    refine Ev.pos (by omega) (Ev.bind (index_ev dims hl (fun e he => (ha e he).1) (i : Int) (by omega) (by omega)) (Ev.bind (place_ev dims ss off base _ (idxs_in (fun e he => (ha e he).1) (by omega)) (fun e he => (ha e he).2) hl hls hs h0 h1) (Ev.pos (by simp; omega) ?_)))
    rw [up i (by omega : i < 4096) (by omega)]
    have := ih (i + 1) (by omega) (by omega)
    rw [List.range_succ, List.map_append] at this
    exact this
theorem all_ev (dims ss : List Int) (off base : Int) (hr : runOk 1 dims = true) (hl : dims.length ≤ 6) (hls : ss.length = dims.length) (hs : ∀ s ∈ ss, -4096 ≤ s ∧ s ≤ 4096) (h0 : 0 ≤ off) (h1 : off ≤ 4096) : Ev (fun k => spec_l3All.f k dims ss off base) (plcs dims ss off) := by
  unfold spec_l3All.f
  have e := size_ev dims (by omega)
  rw [if_pos hr] at e
  exact Ev.bind e (all_l dims ss off base hr hl hls hs h0 h1 (prod dims).toNat 0 (by omega) (by omega))
/-! ### views that can be -/
def strB (ss : List Int) : Bool := ss.all fun s => decide (-4096 ≤ s) && decide (s ≤ 4096)
def viewB (dims ss : List Int) (off base : Int) : Bool :=
  dimsB dims && decide (ss.length = dims.length) && (decide (1 ≤ base) && decide (base ≤ 4096) && decide (0 ≤ off) && decide (off < base)) && (strB ss && decide (0 ≤ off + loS dims ss ∧ off + hiS dims ss < base))
theorem strB_all {ss : List Int} (h : strB ss = true) : ∀ s ∈ ss, -4096 ≤ s ∧ s ≤ 4096 := by
  intro s hs
  have := List.all_eq_true.1 h s hs
  simpa using this
theorem sv1 (dims ss : List Int) (off base : Int) (ps : List Int) (hn : ps.length ≤ 9223372036854775807) : ∀ (d i : Nat), ps.length - i = d → i ≤ ps.length → Ev (fun k => spec_ViewOk.l1 k ps (i : Int) dims ss off base) ((ps.drop i).all fun p => decide (0 ≤ p) && decide (p < base)) := by
  intro d
  induction d with
  | zero =>
    intro i hd hi
    refine Ev.succ ?_
    simp only [spec_ViewOk.l1]
    refine Ev.neg (by omega) (Ev.some ?_)
    rw [List.drop_eq_nil_of_le (by omega)]
    simp
  | succ d ih =>
    intro i hd hi
    have hlt : i < ps.length := by omega
    refine Ev.succ ?_
    simp only [spec_ViewOk.l1]
    refine Ev.pos (by omega) (Ev.pos (by omega) ?_)
    rw [rd_at hlt, drop_at hlt, up i hlt hn]
    refine Ev.ite (fun h => Ev.some ?_) (fun h => Ev.ite (fun h' => Ev.some ?_) (fun h' => ?_))
    · rw [List.all_cons, show decide (0 ≤ ps[i]) = false from decide_eq_false (by omega)]
      rfl
    · rw [List.all_cons, show decide (ps[i] < base) = false from decide_eq_false (by omega), Bool.and_false]
      rfl
    · rw [List.all_cons, show decide (0 ≤ ps[i]) = true from decide_eq_true (by omega), show decide (ps[i] < base) = true from decide_eq_true (by omega), Bool.true_and, Bool.true_and]
      exact ih (i + 1) (by omega) (by omega)
theorem all_dec (ps : List Int) (base : Int) (q : Prop) [Decidable q] (h : (∀ p ∈ ps, 0 ≤ p ∧ p < base) ↔ q) : (ps.all fun p => decide (0 ≤ p) && decide (p < base)) = decide q := by
  rw [Bool.eq_iff_iff, decide_eq_true_eq, ← h, List.all_eq_true]
  simp only [Bool.and_eq_true, decide_eq_true_eq]
theorem sv0 (dims ss : List Int) (off base : Int) (hr : runOk 1 dims = true) (hl : dims.length ≤ 6) (hls : ss.length = dims.length) (h0 : 0 ≤ off) (h1 : off ≤ 4096) : ∀ (d i : Nat), ss.length - i = d → i ≤ ss.length → (∀ (j : Nat) (h : j < ss.length), j < i → -4096 ≤ ss[j] ∧ ss[j] ≤ 4096) →
    Ev (fun k => spec_ViewOk.l0 k (i : Int) dims ss off base) (strB (ss.drop i) && decide (0 ≤ off + loS dims ss ∧ off + hiS dims ss < base)) := by
  intro d
  induction d with
  | zero =>
    intro i hd hi hs
    refine Ev.succ ?_
    simp only [spec_ViewOk.l0]
    have hp' := run_prod (n := 1) (by omega) (by omega) hr
    have hss : ∀ s ∈ ss, -4096 ≤ s ∧ s ≤ 4096 := fun s hm => by
      obtain ⟨j, hj, rfl⟩ := List.getElem_of_mem hm
      exact hs j hj (by omega)
    refine Ev.neg (by omega) (Ev.bind (all_ev dims ss off base hr hl hls hss h0 h1) ?_)
    have e := sv1 dims ss off base (plcs dims ss off) (by simp [plcs]; omega) _ 0 rfl (by omega)
    rw [List.drop_zero] at e
    rw [List.drop_eq_nil_of_le (by omega)]
    have := all_places dims ss off base (fun d hm => (run_all hr d hm).1)
    rw [all_dec _ _ _ this] at e
    exact e
  | succ d ih =>
    intro i hd hi hs
    have hlt : i < ss.length := by omega
    refine Ev.succ ?_
    simp only [spec_ViewOk.l0]
    refine Ev.pos (by omega) (Ev.pos (by omega) ?_)
    rw [rd_at hlt, drop_at hlt, up i hlt (by omega)]
    refine Ev.ite (fun h => Ev.some ?_) (fun h => Ev.ite (fun h' => Ev.some ?_) (fun h' => ?_))
    · simp only [strB, List.all_cons]
      rw [show decide (-4096 ≤ ss[i]) = false from decide_eq_false (by omega)]
      rfl
    · simp only [strB, List.all_cons]
      rw [show decide (ss[i] ≤ 4096) = false from decide_eq_false (by omega), Bool.and_false]
      rfl
    · have e : strB (ss[i] :: ss.drop (i + 1)) = strB (ss.drop (i + 1)) := by
        simp only [strB, List.all_cons]
        rw [show decide (-4096 ≤ ss[i]) = true from decide_eq_true (by omega), show decide (ss[i] ≤ 4096) = true from decide_eq_true (by omega)]
        rfl
      rw [e]
      refine ih (i + 1) (by omega) (by omega) (fun j hj hji => ?_)
      by_cases hji' : j < i
      · exact hs j hj hji'
      · obtain rfl : j = i := by omega
        omega
theorem iv0 (dims ss : List Int) (off base : Int) (hr : runOk 1 dims = true) (hl : dims.length ≤ 6) (hls : ss.length = dims.length) : ∀ (d i : Nat) (lo hi : Int), ss.length - i = d → i ≤ ss.length → -4096 - 16777216 * i ≤ lo → lo ≤ 4096 + 16777216 * i → -4096 - 16777216 * i ≤ hi → hi ≤ 4096 + 16777216 * i →
    Ev (fun k => impl_ViewOk.l0 k lo hi ss (ss.length : Int) (i : Int) dims ss off base) (strB (ss.drop i) && decide (0 ≤ lo + loS (dims.drop i) (ss.drop i) ∧ hi + hiS (dims.drop i) (ss.drop i) < base)) := by
  intro d
  induction d with
  | zero =>
    intro i lo hi hd hi' l1 l2 h1 h2
    refine Ev.succ ?_
    simp only [impl_ViewOk.l0]
    refine Ev.neg (by omega) ?_
    rw [show ss.drop i = [] from List.drop_eq_nil_of_le (by omega), show dims.drop i = [] from List.drop_eq_nil_of_le (by omega)]
    simp only [loS, hiS, strB, List.all_nil, Bool.true_and, Int.add_zero]
    refine Ev.ite (fun h => Ev.some ?_) (fun h => Ev.some ?_)
    · exact decide_eq_decide.2 (by omega)
    · exact (decide_eq_false (by omega)).symm
  | succ d ih =>
    intro i lo hi hd hi' l1 l2 h1 h2
    have hlt : i < ss.length := by omega
    have hlt' : i < dims.length := by omega
    refine Ev.succ ?_
    simp only [impl_ViewOk.l0]
    refine Ev.pos (by omega) (Ev.pos (by omega) (Ev.pos (by omega) ?_))
    rw [rd_at hlt, rd_at hlt', drop_at hlt, drop_at hlt', up i hlt (by omega)]
    refine Ev.ite (fun h => Ev.some ?_) (fun h => Ev.ite (fun h' => Ev.some ?_) (fun h' => Ev.pos (by omega) ?_))
    · simp only [strB, List.all_cons]
      rw [show decide (-4096 ≤ ss[i]) = false from decide_eq_false (by omega)]
      rfl
    · simp only [strB, List.all_cons]
      rw [show decide (ss[i] ≤ 4096) = false from decide_eq_false (by omega), Bool.and_false]
      rfl
    · have e : strB (ss[i] :: ss.drop (i + 1)) = strB (ss.drop (i + 1)) := by
        simp only [strB, List.all_cons]
        rw [show decide (-4096 ≤ ss[i]) = true from decide_eq_true (by omega), show decide (ss[i] ≤ 4096) = true from decide_eq_true (by omega)]
        rfl
      have hdi := run_all hr _ (List.getElem_mem hlt')
      have b := mul_bound (x := dims[i] - 1) (s := ss[i]) (by omega) (by omega) (by omega) (by omega)
      rw [Int.mul_comm] at b
      have c1 : -16777216 ≤ mn 0 (ss[i] * (dims[i] - 1)) ∧ mn 0 (ss[i] * (dims[i] - 1)) ≤ 16777216 := by
        unfold mn
        split <;> omega
      have c2 : -16777216 ≤ mx 0 (ss[i] * (dims[i] - 1)) ∧ mx 0 (ss[i] * (dims[i] - 1)) ≤ 16777216 := by
        unfold mx
        split <;> omega
      rw [e, wrap_id (by omega : -9223372036854775808 ≤ dims[i] - 1) (by omega), wrap_id (by omega : -9223372036854775808 ≤ ss[i] * (dims[i] - 1)) (by omega), wrap_id (by omega : -9223372036854775808 ≤ lo + mn 0 (ss[i] * (dims[i] - 1))) (by omega), wrap_id (by omega : -9223372036854775808 ≤ hi + mx 0 (ss[i] * (dims[i] - 1))) (by omega)]
      simp only [loS, hiS, ← Int.add_assoc]
      exact ih (i + 1) _ _ (by omega) (by omega) (by omega) (by omega) (by omega) (by omega)
theorem view_ev (dims ss : List Int) (off base : Int) (h1 : dims.length ≤ 9223372036854775807) (h2 : ss.length ≤ 9223372036854775807) : Ev (fun k => spec_ViewOk.f k dims ss off base) (viewB dims ss off base) ∧ Ev (fun k => impl_ViewOk.f k dims ss off base) (viewB dims ss off base) := by
  have js : Ev (fun k => spec_ViewOk.j0 k true dims ss off base) false := Ev.succ (by simp only [spec_ViewOk.j0]; exact Ev.pos (by trivial) (Ev.some rfl))
  have ji : Ev (fun k => impl_ViewOk.j0 k true dims ss off base) false := Ev.succ (by simp only [impl_ViewOk.j0]; exact Ev.pos (by trivial) (Ev.some rfl))
  have d1 := sdims_ev dims h1
  have d2 := idims_ev dims h1
  unfold spec_ViewOk.f impl_ViewOk.f viewB
  cases hB : dimsB dims with
  | false =>
    rw [hB] at d1 d2
    exact ⟨Ev.bind d1 (Ev.neg (by simp) js), Ev.bind d2 (Ev.neg (by simp) ji)⟩
  | true =>
    rw [hB] at d1 d2
    by_cases hl : ss.length = dims.length
    · rw [show decide (ss.length = dims.length) = true from decide_eq_true hl]
      by_cases c1 : base < 1
      · rw [show decide (1 ≤ base) = false from decide_eq_false (by omega)]
        exact ⟨Ev.bind d1 (Ev.pos (by trivial) (Ev.pos (by omega) (Ev.pos c1 js))), Ev.bind d2 (Ev.pos (by trivial) (Ev.pos (by omega) (Ev.pos c1 ji)))⟩
      · rw [show decide (1 ≤ base) = true from decide_eq_true (by omega)]
        by_cases c2 : base > 4096
        · rw [show decide (base ≤ 4096) = false from decide_eq_false (by omega)]
          exact ⟨Ev.bind d1 (Ev.pos (by trivial) (Ev.pos (by omega) (Ev.neg c1 (Ev.pos c2 js)))), Ev.bind d2 (Ev.pos (by trivial) (Ev.pos (by omega) (Ev.neg c1 (Ev.pos c2 ji))))⟩
        · rw [show decide (base ≤ 4096) = true from decide_eq_true (by omega)]
          by_cases c3 : off < 0
          · rw [show decide (0 ≤ off) = false from decide_eq_false (by omega)]
            exact ⟨Ev.bind d1 (Ev.pos (by trivial) (Ev.pos (by omega) (Ev.neg c1 (Ev.neg c2 (Ev.pos c3 js))))), Ev.bind d2 (Ev.pos (by trivial) (Ev.pos (by omega) (Ev.neg c1 (Ev.neg c2 (Ev.pos c3 ji)))))⟩
          · rw [show decide (0 ≤ off) = true from decide_eq_true (by omega)]
            by_cases c4 : off ≥ base
            · rw [show decide (off < base) = false from decide_eq_false (by omega), show decide (off ≥ base) = true from decide_eq_true c4]
              exact ⟨Ev.bind d1 (Ev.pos (by trivial) (Ev.pos (by omega) (Ev.neg c1 (Ev.neg c2 (Ev.neg c3 js))))), Ev.bind d2 (Ev.pos (by trivial) (Ev.pos (by omega) (Ev.neg c1 (Ev.neg c2 (Ev.neg c3 ji)))))⟩
            · rw [show decide (off < base) = true from decide_eq_true (by omega), show decide (off ≥ base) = false from decide_eq_false c4]
              have hB' := hB
              unfold dimsB at hB'
              simp only [Bool.and_eq_true, decide_eq_true_eq] at hB'
              obtain ⟨hl6, hr⟩ := hB'
              have s := sv0 dims ss off base hr hl6 hl (by omega) (by omega) ss.length 0 (by omega) (by omega) (fun j _ hj => by omega)
              have i := iv0 dims ss off base hr hl6 hl ss.length 0 off off (by omega) (by omega) (by omega) (by omega) (by omega) (by omega)
              refine ⟨Ev.bind d1 (Ev.pos (by trivial) (Ev.pos (by omega) (Ev.neg c1 (Ev.neg c2 (Ev.neg c3 (Ev.succ ?_)))))), Ev.bind d2 (Ev.pos (by trivial) (Ev.pos (by omega) (Ev.neg c1 (Ev.neg c2 (Ev.neg c3 (Ev.succ ?_))))))⟩
              · simp only [spec_ViewOk.j0]
                exact Ev.neg (by simp) s
              · simp only [impl_ViewOk.j0]
                exact Ev.neg (by simp) i
    · rw [show decide (ss.length = dims.length) = false from decide_eq_false hl]
      exact ⟨Ev.bind d1 (Ev.pos (by trivial) (Ev.neg (by omega) js)), Ev.bind d2 (Ev.pos (by trivial) (Ev.neg (by omega) ji))⟩
/-- What a view that can be is. -/
theorem viewB_true {dims ss : List Int} {off base : Int} (h : viewB dims ss off base = true) :
    dims.length ≤ 6 ∧ runOk 1 dims = true ∧ ss.length = dims.length ∧ 1 ≤ base ∧ base ≤ 4096 ∧ 0 ≤ off ∧ off < base ∧ (∀ s ∈ ss, -4096 ≤ s ∧ s ≤ 4096) ∧ 0 ≤ off + loS dims ss ∧ off + hiS dims ss < base := by
  unfold viewB dimsB at h
  simp only [Bool.and_eq_true, decide_eq_true_eq] at h
  obtain ⟨⟨⟨⟨a, b⟩, c⟩, ⟨⟨d, e⟩, f⟩, g⟩, i, j, l⟩ := h
  exact ⟨a, b, c, d, e, f, g, strB_all i, j, l⟩
/-! ### marks: written into what was made, and found there again -/
def ups (a : Int) : Nat → List Int
  | 0 => []
  | n + 1 => a :: ups (a + 1) n
theorem ups_len : ∀ (n : Nat) (a : Int), (ups a n).length = n
  | 0, _ => rfl
  | n + 1, a => by simp [ups, ups_len n]
theorem ups_at : ∀ (n : Nat) (a : Int) (i : Nat) (h : i < (ups a n).length), (ups a n)[i] = a + i
  | 0, _, _, h => by simp [ups] at h
  | n + 1, a, 0, _ => by simp [ups]
  | n + 1, a, i + 1, h => by
    simp only [ups, List.getElem_cons_succ]
    rw [ups_at n (a + 1) i (by simpa [ups] using h)]
    omega
theorem set_over {β : Type} {L l : List β} {i : Nat} (h : i < L.length) (hl : l.length = L.length) : (L.take i ++ l.drop i).set i L[i] = L.take (i + 1) ++ l.drop (i + 1) := by
  have h' : i < l.length := by omega
  rw [List.drop_eq_getElem_cons h', List.set_append_right _ _ (by simp; omega), List.length_take, Nat.min_eq_left (by omega), Nat.sub_self, List.set_cons_zero, List.take_succ_eq_append_getElem h, List.append_assoc]
  rfl
theorem mark_l (l : List Int) (a : Int) (h0 : 0 ≤ a) (h1 : a + l.length ≤ 4611686018427387904) : ∀ (d i : Nat), l.length - i = d → i ≤ l.length → Ev (fun k => laws_markIntS.l0 k ((ups a l.length).take i ++ l.drop i) (a + i) (i : Int)) (a + l.length, ups a l.length) := by
  intro d
  induction d with
  | zero =>
    intro i hd hi
    refine Ev.succ ?_
    simp only [laws_markIntS.l0]
    have e : (ups a l.length).take i ++ l.drop i = ups a l.length := by
      rw [List.drop_eq_nil_of_le (by omega), List.append_nil, List.take_of_length_le (by rw [ups_len]; omega)]
    rw [e]
    exact Ev.neg (by rw [ups_len]; omega) (Ev.some (by rw [show i = l.length by omega]))
  | succ d ih =>
    intro i hd hi
    refine Ev.succ ?_
    simp only [laws_markIntS.l0]
    have hu : i < (ups a l.length).length := by rw [ups_len]; omega
    refine Ev.pos (by simp [ups_len]; omega) (Ev.pos (by omega) ?_)
    have e := set_over hu (l := l) (by rw [ups_len])
    rw [ups_at l.length a i hu] at e
    rw [Int.toNat_natCast, e, up i (by omega : i < l.length) (by omega), wrap_id (by omega) (by omega), show a + (i : Int) + 1 = a + ((i + 1 : Nat) : Int) by omega]
    exact ih (i + 1) (by omega) (by omega)
theorem mark_ev (l : List Int) (a : Int) (h0 : 0 ≤ a) (h1 : a + l.length ≤ 4611686018427387904) : Ev (fun k => laws_markIntS.f k l a) (a + l.length, ups a l.length) := by
  unfold laws_markIntS.f
  have := mark_l l a h0 h1 l.length 0 (by omega) (by omega)
  simpa using this
theorem held_l (n : Nat) (a : Int) (h0 : 0 ≤ a) (h1 : a + n ≤ 4611686018427387904) : ∀ (d i : Nat), n - i = d → i ≤ n → Ev (fun k => laws_heldIntS.l0 k (ups a n) (a + i) (i : Int)) (a + n) := by
  intro d
  induction d with
  | zero =>
    intro i hd hi
    refine Ev.succ ?_
    simp only [laws_heldIntS.l0]
    exact Ev.neg (by rw [ups_len]; omega) (Ev.some (by rw [show i = n by omega]))
  | succ d ih =>
    intro i hd hi
    refine Ev.succ ?_
    simp only [laws_heldIntS.l0]
    have hu : i < (ups a n).length := by rw [ups_len]; omega
    refine Ev.pos (by omega) (Ev.pos (by omega) ?_)
    rw [rd_at hu, ups_at n a i hu, up i (by omega : i < n) (by omega), wrap_id (by omega) (by omega), show a + (i : Int) + 1 = a + ((i + 1 : Nat) : Int) by omega]
    exact Ev.pos rfl (ih (i + 1) (by omega) (by omega))
theorem held_ev (n : Nat) (a : Int) (h0 : 0 ≤ a) (h1 : a + n ≤ 4611686018427387904) : Ev (fun k => laws_heldIntS.f k (ups a n) a) (a + n) := by
  unfold laws_heldIntS.f
  have := held_l n a h0 h1 n 0 (by omega) (by omega)
  simpa using this
/-! ### tensors that can be -/
def numB (x : Int) : Bool := decide (0 ≤ x) && decide (x < 2147483647)
def tensB (dims data : List Int) : Bool := dimsB dims && (decide ((data.length : Int) = prod dims) && data.all numB)
theorem stens_l (dims l : List Int) (hn : l.length ≤ 9223372036854775807) : ∀ (d i : Nat), l.length - i = d → i ≤ l.length → Ev (fun k => spec_TensorOk.l0 k (i : Int) dims l) ((l.drop i).all numB) := by
  intro d
  induction d with
  | zero =>
    intro i hd hi
    refine Ev.succ ?_
    simp only [spec_TensorOk.l0]
    refine Ev.neg (by omega) (Ev.some ?_)
    rw [List.drop_eq_nil_of_le (by omega)]
    rfl
  | succ d ih =>
    intro i hd hi
    have hlt : i < l.length := by omega
    refine Ev.succ ?_
    simp only [spec_TensorOk.l0]
    refine Ev.pos (by omega) (Ev.pos (by omega) ?_)
    rw [rd_at hlt, drop_at hlt, List.all_cons, up i hlt hn]
    refine Ev.ite (fun h => Ev.some ?_) (fun h => Ev.ite (fun h2 => Ev.some ?_) (fun h2 => ?_))
    · simp [numB, show ¬ (0 ≤ l[i]) by omega]
    · simp [numB, show ¬ (l[i] < 2147483647) by omega]
    · rw [show numB l[i] = true by simp [numB]; omega, Bool.true_and]
      exact ih (i + 1) (by omega) (by omega)
theorem stens_ev (dims l : List Int) (hd : dims.length ≤ 9223372036854775807) (hn : l.length ≤ 9223372036854775807) : Ev (fun k => spec_TensorOk.f k dims l) (tensB dims l) := by
  unfold spec_TensorOk.f tensB
  refine Ev.bind (sdims_ev dims hd) ?_
  cases hb : dimsB dims with
  | false =>
    refine Ev.neg (by simp) (Ev.succ ?_)
    simp only [spec_TensorOk.j0]
    exact Ev.pos (by trivial) (Ev.some rfl)
  | true =>
    have hb' := hb
    unfold dimsB at hb'
    simp only [Bool.and_eq_true, decide_eq_true_eq] at hb'
    have e := size_ev dims hd
    rw [if_pos hb'.2] at e
    refine Ev.pos rfl (Ev.bind e (Ev.succ ?_))
    simp only [spec_TensorOk.j0, Bool.true_and]
    by_cases h : (l.length : Int) = prod dims
    · refine Ev.neg (by simpa using h) ?_
      rw [decide_eq_true h, Bool.true_and]
      exact stens_l dims l hn l.length 0 (by omega) (by omega)
    · refine Ev.pos (by simpa using h) (Ev.some ?_)
      rw [decide_eq_false h]
      rfl
theorem isnum_f (x : Int) : impl_isNum.f x = some (numB x) := by
  unfold impl_isNum.f numB
  split
  · next h => rw [decide_eq_true (show 0 ≤ x by omega), Bool.true_and]
  · next h => rw [decide_eq_false (show ¬ 0 ≤ x by omega), Bool.false_and]
theorem nums_l (l : List Int) (hn : l.length ≤ 9223372036854775807) : ∀ (d i : Nat), l.length - i = d → i ≤ l.length → Ev (fun k => impl_allNums.l0 k l (l.length : Int) (i : Int)) ((l.drop i).all numB) := by
  intro d
  induction d with
  | zero =>
    intro i hd hi
    refine Ev.succ ?_
    simp only [impl_allNums.l0]
    refine Ev.neg (by omega) (Ev.some ?_)
    rw [List.drop_eq_nil_of_le (by omega)]
    rfl
  | succ d ih =>
    intro i hd hi
    have hlt : i < l.length := by omega
    refine Ev.succ ?_
    simp only [impl_allNums.l0]
    refine Ev.pos (by omega) (Ev.pos (by omega) (Ev.pos (by omega) ?_))
    rw [rd_at hlt, drop_at hlt, List.all_cons, up i hlt hn]
    refine Ev.b (isnum_f _) ?_
    cases numB l[i] with
    | false => exact Ev.neg (by simp) (Ev.some rfl)
    | true => exact Ev.pos rfl (ih (i + 1) (by omega) (by omega))
theorem nums_ev (l : List Int) (hn : l.length ≤ 9223372036854775807) : Ev (fun k => impl_allNums.f k l) (l.all numB) := by
  unfold impl_allNums.f
  exact nums_l l hn l.length 0 (by omega) (by omega)
theorem itens_ev (dims l : List Int) (hd : dims.length ≤ 9223372036854775807) (hn : l.length ≤ 9223372036854775807) : Ev (fun k => impl_TensorOk.f k dims l) (tensB dims l) := by
  unfold impl_TensorOk.f tensB
  refine Ev.bind (idims_ev dims hd) ?_
  cases hb : dimsB dims with
  | false => exact Ev.neg (by simp) (Ev.some rfl)
  | true =>
    have hb' := hb
    unfold dimsB at hb'
    simp only [Bool.and_eq_true, decide_eq_true_eq] at hb'
    refine Ev.pos rfl (Ev.bind (product_ev dims hd hb'.2) ?_)
    rw [Bool.true_and]
    refine Ev.ite (fun h => ?_) (fun h => ?_)
    · rw [decide_eq_true h, Bool.true_and]
      exact Ev.bind (nums_ev l hn) (Ev.some rfl)
    · rw [decide_eq_false h]
      exact Ev.some rfl
theorem toTensor_ev (a b : List Int) (ha : a.length ≤ 1048576) (hb : b.length ≤ 1048576) : Ev (fun k => laws_toTensor.f k a b) (a, b) := by
  unfold laws_toTensor.f
  exact Ev.bind (toIntS_ev a (by omega)) (Ev.bind (toIntS_ev b (by omega)) (Ev.some rfl))
theorem eqTensor_ev (a b : List Int) (ha : a.length ≤ 1048576) (hb : b.length ≤ 1048576) : Ev (fun k => laws_eqTensor.f k a b a b) true := by
  unfold laws_eqTensor.f
  exact Ev.bind (eqIntS_ev a (by omega)) (Ev.pos rfl (Ev.bind (eqIntS_ev b (by omega)) (Ev.pos rfl (Ev.some rfl))))
theorem markTensor_ev (a b : List Int) (ha : a.length ≤ 1048576) (hb : b.length ≤ 1048576) : Ev (fun k => laws_markTensor.f k a b 1) (1 + (a.length : Int) + b.length, ups 1 a.length, ups (1 + (a.length : Int)) b.length) := by
  unfold laws_markTensor.f
  exact Ev.bind (mark_ev a 1 (by omega) (by omega)) (Ev.bind (mark_ev b _ (by omega) (by omega)) (Ev.some rfl))
theorem szTensor_f (a b : List Int) (ha : a.length ≤ 9223372036854775807) (hb : b.length ≤ 9223372036854775807) : ∃ q, laws_szTensor.f a b 1048576 = some q ∧ (q < 0 ∨ (0 ≤ q ∧ a.length ≤ 1048576 ∧ b.length ≤ 1048576)) := by
  unfold laws_szTensor.f laws_szIntS.f
  rw [wrap_id (by omega) (by omega)]
  by_cases h : (1048576 : Int) - (a.length : Int) < 0
  · rw [if_pos h, Option.bind_some, if_pos (by omega)]
    exact ⟨_, rfl, .inl (by omega)⟩
  · rw [if_neg h, Option.bind_some, if_neg h, wrap_id (by omega) (by omega)]
    by_cases h2 : (1048576 : Int) - (a.length : Int) - (b.length : Int) < 0
    · rw [if_pos h2, Option.bind_some, if_pos (by omega)]
      exact ⟨_, rfl, .inl (by omega)⟩
    · rw [if_neg h2, Option.bind_some, if_neg h2]
      exact ⟨_, rfl, .inr ⟨by omega, by omega, by omega⟩⟩
theorem clone_f (l : List Int) (h : l.length < 17592186044416) : slices_Clone_int_int.f l = some l := by
  unfold slices_Clone_int_int.f
  rw [if_pos h]
theorem l3Ints_f (l : List Int) (h : l.length < 17592186044416) : spec_l3Ints.f l = some l := by
  unfold spec_l3Ints.f
  simp only [Option.bind_some, List.nil_append]
  rw [if_pos (by simp; omega)]
/-! ### the iterator over places, by the program: it gives all of them in order -/
/-- One step of the index, the last axis first. -/
def incr : List Int → List Int → List Int → Int → Bool × List Int × Int
  | d :: ds, s :: ss, x :: xs, a => if (incr ds ss xs a).1 = true then (true, x :: (incr ds ss xs a).2.1, (incr ds ss xs a).2.2) else if x + 1 < d then (true, (x + 1) :: (incr ds ss xs a).2.1, (incr ds ss xs a).2.2 + s) else (false, 0 :: (incr ds ss xs a).2.1, (incr ds ss xs a).2.2 + s - s * d)
  | _, _, _, a => (false, [], a)
theorem incr_bound : ∀ (ds ss xs : List Int) (a : Int), (∀ d ∈ ds, 1 ≤ d ∧ d ≤ 4096) → (∀ s ∈ ss, -4096 ≤ s ∧ s ≤ 4096) → a - 16781312 * ds.length ≤ (incr ds ss xs a).2.2 ∧ (incr ds ss xs a).2.2 ≤ a + 16781312 * ds.length
  | [], _, _, a, _, _ => by simp [incr]
  | d :: ds, [], _, a, _, _ => by simp only [incr, List.length_cons]; omega
  | d :: ds, s :: ss, [], a, _, _ => by simp only [incr, List.length_cons]; omega
  | d :: ds, s :: ss, x :: xs, a, h1, h2 => by
    have ih := incr_bound ds ss xs a (fun y hy => h1 y (List.mem_cons_of_mem _ hy)) (fun y hy => h2 y (List.mem_cons_of_mem _ hy))
    have hd := h1 d List.mem_cons_self
    have hs := h2 s List.mem_cons_self
    have p1 : s * d ≤ 4096 * 4096 := by
      have q1 : s * d ≤ 4096 * d := Int.mul_le_mul_of_nonneg_right hs.2 (by omega)
      omega
    have p2 : -4096 * 4096 ≤ s * d := by
      have q1 : -4096 * d ≤ s * d := Int.mul_le_mul_of_nonneg_right hs.1 (by omega)
      omega
    simp only [incr, List.length_cons]
    split
    · simp only
      omega
    · split
      · simp only
        omega
      · simp only
        omega
theorem incr_len : ∀ (ds ss xs : List Int) (a : Int), ss.length = ds.length → xs.length = ds.length → (incr ds ss xs a).2.1.length = ds.length
  | [], _, _, a, _, _ => by simp [incr]
  | d :: ds, [], _, a, h, _ => by simp at h
  | d :: ds, s :: ss, [], a, _, h => by simp at h
  | d :: ds, s :: ss, x :: xs, a, h1, h2 => by
    have ih := incr_len ds ss xs a (by simpa using h1) (by simpa using h2)
    simp only [incr]
    split
    · simp [ih]
    · split <;> simp [ih]
theorem spot_suffix : ∀ (ds ss xs P Ps Px : List Int) (a : Int), (∀ d ∈ ds, 1 ≤ d ∧ d ≤ 4096) → (∀ s ∈ ss, -4096 ≤ s ∧ s ≤ 4096) → ss.length = ds.length → inD ds xs → Ps.length = P.length → Px.length = P.length → -1000000000000 ≤ a - 16781312 * ds.length → a + 16781312 * ds.length ≤ 1000000000000 →
    spotIn (P ++ ds) (Ps ++ ss) (P.length + ds.length) (Px ++ xs) a = (if (incr ds ss xs a).1 = true then (true, Px ++ (incr ds ss xs a).2.1, (incr ds ss xs a).2.2) else spotIn (P ++ ds) (Ps ++ ss) P.length (Px ++ (incr ds ss xs a).2.1) (incr ds ss xs a).2.2)
  | [], ss, xs, P, Ps, Px, a, _, _, h3, h4, _, _, _, _ => by
    obtain rfl : ss = [] := List.length_eq_zero_iff.1 h3
    obtain rfl : xs = [] := List.length_eq_zero_iff.1 (by have := inD_len h4; simpa using this)
    simp [incr]
  | d :: ds, [], xs, P, Ps, Px, a, _, _, h3, _, _, _, _, _ => by simp at h3
  | d :: ds, s :: ss, [], P, Ps, Px, a, _, _, _, h4, _, _, _, _ => by simp [inD] at h4
  | d :: ds, s :: ss, x :: xs, P, Ps, Px, a, h1, h2, h3, h4, h5, h6, h7, h8 => by
    have h1' : ∀ y ∈ ds, 1 ≤ y ∧ y ≤ 4096 := fun y hy => h1 y (List.mem_cons_of_mem _ hy)
    have h2' : ∀ y ∈ ss, -4096 ≤ y ∧ y ≤ 4096 := fun y hy => h2 y (List.mem_cons_of_mem _ hy)
    have hd := h1 d List.mem_cons_self
    have hs := h2 s List.mem_cons_self
    simp only [inD] at h4
    rw [List.length_cons] at h7 h8
    have ih := spot_suffix ds ss xs (P ++ [d]) (Ps ++ [s]) (Px ++ [x]) a h1' h2' (by simpa using h3) h4.2.2 (by simp [h5]) (by simp [h6]) (by omega) (by omega)
    have hb := incr_bound ds ss xs a h1' h2'
    have hlen := incr_len ds ss xs a (by simpa using h3) (inD_len h4.2.2)
    have ea : ∀ (A B : List Int) (y : Int), A ++ [y] ++ B = A ++ y :: B := fun A B y => by simp
    rw [ea, ea, ea, ea] at ih
    have el : (P ++ [d]).length + ds.length = P.length + (d :: ds).length := by simp; omega
    rw [el] at ih
    rw [ih]
    obtain ⟨ys, hys⟩ : ∃ ys, ys = (incr ds ss xs a).2.1 := ⟨_, rfl⟩
    obtain ⟨c, hc⟩ : ∃ c, c = (incr ds ss xs a).2.2 := ⟨_, rfl⟩
    by_cases hi : (incr ds ss xs a).1 = true
    · have E : incr (d :: ds) (s :: ss) (x :: xs) a = (true, x :: (incr ds ss xs a).2.1, (incr ds ss xs a).2.2) := by
        simp only [incr]
        rw [if_pos hi]
      rw [if_pos hi, E, if_pos rfl]
    · have E : incr (d :: ds) (s :: ss) (x :: xs) a = if x + 1 < d then (true, (x + 1) :: ys, c + s) else (false, 0 :: ys, c + s - s * d) := by
        simp only [incr]
        rw [if_neg hi, ← hys, ← hc]
      rw [if_neg hi, E, ← hys, ← hc]
      rw [← hc] at hb
      have ep : (P ++ [d]).length = P.length + 1 := by simp
      rw [ep]
      simp only [spotIn]
      have r1 : rd (Px ++ x :: ys) ((P.length : Nat) : Int) = x := by
        rw [rd_at (by simp; omega), List.getElem_append_right (by omega)]
        simp [h6]
      have r2 : rd (P ++ d :: ds) ((P.length : Nat) : Int) = d := by
        rw [rd_at (by simp), List.getElem_append_right (by omega)]
        simp
      have r3 : rd (Ps ++ s :: ss) ((P.length : Nat) : Int) = s := by
        rw [rd_at (by simp; omega), List.getElem_append_right (by omega)]
        simp [h5]
      have st : ∀ y : Int, (Px ++ x :: ys).set P.length y = Px ++ y :: ys := fun y => by
        rw [List.set_append_right _ _ (by omega), h6, Nat.sub_self, List.set_cons_zero]
      have p1 : s * d ≤ 4096 * 4096 := by
        have q1 : s * d ≤ 4096 * d := Int.mul_le_mul_of_nonneg_right hs.2 (by omega)
        omega
      have p2 : -4096 * 4096 ≤ s * d := by
        have q1 : -4096 * d ≤ s * d := Int.mul_le_mul_of_nonneg_right hs.1 (by omega)
        omega
      rw [r1, r2, r3, st, st, wrap_id (n := x + 1) (by omega) (by omega), wrap_id (n := c + s) (by omega) (by omega), wrap_id (n := s * d) (by omega) (by omega), wrap_id (n := c + s - s * d) (by omega) (by omega)]
      by_cases hx : x + 1 < d
      · rw [if_pos hx, if_pos hx, if_pos rfl]
      · rw [if_neg hx, if_neg hx, if_neg (by simp)]
theorem zeros_in : ∀ (ds : List Int), (∀ d ∈ ds, 1 ≤ d) → inD ds (List.replicate ds.length 0) ∧ ord ds (List.replicate ds.length 0) = 0
  | [], _ => by simp [inD, ord]
  | d :: ds, h => by
    have ih := zeros_in ds (fun y hy => h y (List.mem_cons_of_mem _ hy))
    have := h d List.mem_cons_self
    rw [List.length_cons, List.replicate_succ]
    simp only [inD, ord]
    exact ⟨⟨by omega, by omega, ih.1⟩, by rw [ih.2]; omega⟩
theorem dot_zeros : ∀ (n : Nat) (ss : List Int), dot (List.replicate n 0) ss = 0
  | 0, _ => by simp [dot]
  | n + 1, [] => by simp [List.replicate_succ, dot]
  | n + 1, s :: ss => by
    rw [List.replicate_succ]
    simp only [dot]
    rw [dot_zeros n ss]
    omega
theorem incr_spec : ∀ (ds ss xs : List Int) (a : Int), (∀ d ∈ ds, 1 ≤ d) → ss.length = ds.length → inD ds xs →
    (∃ ys, incr ds ss xs a = (true, ys, a - dot xs ss + dot ys ss) ∧ inD ds ys ∧ ord ds ys = ord ds xs + 1) ∨ (incr ds ss xs a = (false, List.replicate ds.length 0, a - dot xs ss) ∧ ord ds xs + 1 = prod ds)
  | [], ss, xs, a, _, h2, h3 => by
    obtain rfl : ss = [] := List.length_eq_zero_iff.1 h2
    obtain rfl : xs = [] := List.length_eq_zero_iff.1 (by have := inD_len h3; simpa using this)
    exact .inr (by simp [incr, dot, ord, prod])
  | d :: ds, [], xs, a, _, h2, _ => by simp at h2
  | d :: ds, s :: ss, [], a, _, _, h3 => by simp [inD] at h3
  | d :: ds, s :: ss, x :: xs, a, h1, h2, h3 => by
    have h1' : ∀ y ∈ ds, 1 ≤ y := fun y hy => h1 y (List.mem_cons_of_mem _ hy)
    simp only [inD] at h3
    rcases incr_spec ds ss xs a h1' (by simpa using h2) h3.2.2 with ⟨ys, e1, e2, e3⟩ | ⟨e1, e2⟩
    · refine .inl ⟨x :: ys, ?_, ?_, ?_⟩
      · simp only [incr]
        rw [e1, if_pos rfl]
        simp only [dot, Prod.mk.injEq, true_and]
        omega
      · simp only [inD]
        exact ⟨h3.1, h3.2.1, e2⟩
      · simp only [ord]
        omega
    · by_cases hx : x + 1 < d
      · refine .inl ⟨(x + 1) :: List.replicate ds.length 0, ?_, ?_, ?_⟩
        · simp only [incr]
          rw [e1, if_neg (by simp), if_pos hx]
          simp only [dot, dot_zeros, Prod.mk.injEq, true_and]
          rw [Int.add_mul]
          omega
        · simp only [inD]
          exact ⟨by omega, hx, (zeros_in ds h1').1⟩
        · simp only [ord]
          rw [(zeros_in ds h1').2, Int.add_mul]
          omega
      · have ed : d = x + 1 := by omega
        refine .inr ⟨?_, ?_⟩
        · simp only [incr]
          rw [e1, if_neg (by simp), if_neg hx, List.length_cons, List.replicate_succ]
          simp only [dot, Prod.mk.injEq, true_and]
          rw [ed, Int.mul_add, Int.mul_comm s x]
          omega
        · simp only [ord, prod]
          rw [ed, Int.add_mul]
          omega
theorem spotsF_from (ds ss : List Int) (off : Int) (hr : runOk 1 ds = true) (hl : ds.length ≤ 6) (hls : ss.length = ds.length) (hs : ∀ s ∈ ss, -4096 ≤ s ∧ s ≤ 4096) (h0 : 0 ≤ off + loS ds ss) (h1 : off + hiS ds ss < 4096) : ∀ (m : Nat) (xs : List Int), inD ds xs → (prod ds).toNat - (ord ds xs).toNat = m →
    Ev (fun k => spotsF ds ss k xs (off + dot xs ss)) ((plcs ds ss off).drop (ord ds xs).toNat) := by
  have hd : ∀ d ∈ ds, 1 ≤ d ∧ d ≤ 4096 := fun d hm => run_all hr d hm
  have hd1 : ∀ d ∈ ds, 1 ≤ d := fun d hm => (hd d hm).1
  intro m
  induction m with
  | zero =>
    intro xs hx hm
    have := ord_lt hd1 hx
    omega
  | succ m ih =>
    intro xs hx hm
    have ho := ord_lt hd1 hx
    have hb := dot_between (ss := ss) hx
    have hlen := inD_len hx
    have sfx := spot_suffix ds ss xs [] [] [] (off + dot xs ss) hd hs hls hx rfl rfl (by omega) (by omega)
    simp only [List.nil_append, List.length_nil, Nat.zero_add] at sfx
    have hp : (ord ds xs).toNat < (plcs ds ss off).length := by
      simp only [plcs, List.length_map, List.length_range]
      omega
    have eg : (plcs ds ss off)[(ord ds xs).toNat] = off + dot xs ss := by
      simp only [plcs, List.getElem_map, List.getElem_range, plc]
      have := idxs_ord 0 hd1 hx
      rw [Int.zero_mul, Int.zero_add] at this
      rw [Int.toNat_of_nonneg ho.1, this]
    rw [drop_at hp, eg]
    rcases incr_spec ds ss xs (off + dot xs ss) hd1 hls hx with ⟨ys, e1, e2, e3⟩ | ⟨e1, e2⟩
    · rw [e1, if_pos rfl] at sfx
      have ih' := ih ys e2 (by omega)
      rw [show off + dot xs ss - dot xs ss + dot ys ss = off + dot ys ss by omega] at sfx
      rw [show (ord ds ys).toNat = (ord ds xs).toNat + 1 by omega] at ih'
      refine Ev.succ ?_
      simp only [spotsF]
      rw [sfx]
      exact Ev.pos rfl (Ev.bind ih' (Ev.some rfl))
    · rw [e1, if_neg (by simp)] at sfx
      refine Ev.succ ?_
      simp only [spotsF]
      rw [sfx]
      simp only [spotIn]
      refine Ev.neg (by simp) (Ev.some ?_)
      rw [List.drop_eq_nil_of_le]
      simp only [plcs, List.length_map, List.length_range]
      omega
theorem spotsF_ev {ds ss : List Int} {off base : Int} (hv : viewB ds ss off base = true) : Ev (fun k => spotsF ds ss k (List.replicate ds.length 0) off) (plcs ds ss off) := by
  obtain ⟨q1, q2, q3, q4, q5, q6, q7, q8, q9, q10⟩ := viewB_true hv
  have z := zeros_in ds (fun d hm => (run_all q2 d hm).1)
  have h := spotsF_from ds ss off q2 q1 q3 q8 q9 (by omega) _ _ z.1 rfl
  rw [z.2, dot_zeros] at h
  simpa using h
theorem plcs_len {ds ss : List Int} {off base : Int} (hv : viewB ds ss off base = true) : (plcs ds ss off).length ≤ 4096 := by
  obtain ⟨q1, q2, q3, q4, q5, q6, q7, q8, q9, q10⟩ := viewB_true hv
  have := run_prod (n := 1) (by omega) (by omega) q2
  simp only [plcs, List.length_map, List.length_range]
  omega
theorem view_eq (a b : List Int) (o s : Int) (ha : a.length ≤ 1048576) (hb : b.length ≤ 1048576) : Ev (fun k => laws_eqView.f k a b o s a b o s) true := by
  unfold laws_eqView.f
  exact Ev.bind (eqIntS_ev a (by omega)) (Ev.pos rfl (Ev.bind (eqIntS_ev b (by omega)) (Ev.pos rfl (Ev.pos rfl (Ev.pos rfl (Ev.some rfl))))))
theorem view_mark (a b : List Int) (o s : Int) (ha : a.length ≤ 1048576) (hb : b.length ≤ 1048576) : Ev (fun k => laws_markView.f k a b o s 1) (1 + (a.length : Int) + b.length, ups 1 a.length, ups (1 + (a.length : Int)) b.length) := by
  unfold laws_markView.f
  exact Ev.bind (mark_ev a 1 (by omega) (by omega)) (Ev.bind (mark_ev b _ (by omega) (by omega)) (Ev.some rfl))
theorem view_to (a b : List Int) (o s : Int) (ha : a.length ≤ 1048576) (hb : b.length ≤ 1048576) : Ev (fun k => laws_toView.f k a b o s) (a, b, o, s) := by
  unfold laws_toView.f
  exact Ev.bind (toIntS_ev a (by omega)) (Ev.bind (toIntS_ev b (by omega)) (Ev.some rfl))
theorem sz_view (a b : List Int) (o s : Int) (m1 : a.length ≤ 9223372036854775807) (m2 : b.length ≤ 9223372036854775807) : ∃ n, laws_szView.f a b o s 1048576 = some n ∧ (0 ≤ n → a.length ≤ 1048576 ∧ b.length ≤ 1048576) := by
  unfold laws_szView.f laws_szIntS.f
  rw [wrap_id (by omega : -9223372036854775808 ≤ 1048576 - (a.length : Int)) (by omega)]
  by_cases h1 : (1048576 : Int) - (a.length : Int) < 0
  · rw [if_pos h1]
    exact ⟨-1, by simp, by omega⟩
  rw [if_neg h1]
  simp only [Option.bind_some]
  rw [if_neg h1, wrap_id (by omega : -9223372036854775808 ≤ 1048576 - (a.length : Int) - (b.length : Int)) (by omega)]
  by_cases h2 : (1048576 : Int) - (a.length : Int) - (b.length : Int) < 0
  · rw [if_pos h2]
    exact ⟨-1, by simp, by omega⟩
  rw [if_neg h2]
  exact ⟨(1048576 : Int) - (a.length : Int) - (b.length : Int), by simp [h2], by omega⟩
theorem view_none (dims ss : List Int) (off base : Int) : True := trivial
theorem view_markA (a b : List Int) (o s t : Int) (ha : a.length ≤ 1048576) (hb : b.length ≤ 1048576) (h0 : 0 ≤ t) (h1 : t ≤ 4194304) : Ev (fun k => laws_markView.f k a b o s t) (t + (a.length : Int) + b.length, ups t a.length, ups (t + (a.length : Int)) b.length) := by
  unfold laws_markView.f
  exact Ev.bind (mark_ev a t h0 (by omega)) (Ev.bind (mark_ev b _ (by omega) (by omega)) (Ev.some rfl))
theorem sz_viewA (a b : List Int) (o s n : Int) (m1 : a.length ≤ 9223372036854775807) (m2 : b.length ≤ 9223372036854775807) (h0 : 0 ≤ n) (h1 : n ≤ 1048576) : ∃ q, laws_szView.f a b o s n = some q ∧ (q < 0 ∨ (0 ≤ q ∧ a.length ≤ 1048576 ∧ b.length ≤ 1048576)) := by
  unfold laws_szView.f laws_szIntS.f
  rw [wrap_id (by omega) (by omega)]
  by_cases h : n - (a.length : Int) < 0
  · rw [if_pos h, Option.bind_some, if_pos (by omega)]
    exact ⟨_, rfl, .inl (by omega)⟩
  · rw [if_neg h, Option.bind_some, if_neg h, wrap_id (by omega) (by omega)]
    by_cases h2 : n - (a.length : Int) - (b.length : Int) < 0
    · rw [if_pos h2, Option.bind_some, if_pos (by omega)]
      exact ⟨_, rfl, .inl (by omega)⟩
    · rw [if_neg h2, Option.bind_some, if_neg h2]
      exact ⟨_, rfl, .inr ⟨by omega, by omega, by omega⟩⟩
theorem szTensorN (a b : List Int) (ha : a.length ≤ 9223372036854775807) (hb : b.length ≤ 9223372036854775807) : ∃ q, laws_szTensor.f a b 1048576 = some q ∧ (q < 0 ∨ (0 ≤ q ∧ q ≤ 1048576 ∧ a.length ≤ 1048576 ∧ b.length ≤ 1048576)) := by
  unfold laws_szTensor.f laws_szIntS.f
  rw [wrap_id (by omega) (by omega)]
  by_cases h : (1048576 : Int) - (a.length : Int) < 0
  · rw [if_pos h, Option.bind_some, if_pos (by omega)]
    exact ⟨_, rfl, .inl (by omega)⟩
  · rw [if_neg h, Option.bind_some, if_neg h, wrap_id (by omega) (by omega)]
    by_cases h2 : (1048576 : Int) - (a.length : Int) - (b.length : Int) < 0
    · rw [if_pos h2, Option.bind_some, if_pos (by omega)]
      exact ⟨_, rfl, .inl (by omega)⟩
    · rw [if_neg h2, Option.bind_some, if_neg h2]
      exact ⟨_, rfl, .inr ⟨by omega, by omega, by omega, by omega⟩⟩
theorem look_l (dt ps a b : List Int) (hn : ps.length ≤ 4096) (hp : ∀ p ∈ ps, 0 ≤ p ∧ p < dt.length) : ∀ (d i : Nat), ps.length - i = d → i ≤ ps.length → Ev (fun k => spec_Look.l0 k ps (i : Int) a dt b ((ps.take i).map (rd dt))) (b, ps.map (rd dt)) := by
  intro d
  induction d with
  | zero =>
    intro i hd hi
    refine Ev.succ ?_
    simp only [spec_Look.l0]
    refine Ev.neg (by omega) (Ev.some ?_)
    rw [List.take_of_length_le (by omega)]
  | succ d ih =>
    intro i hd hi
    have hlt : i < ps.length := by omega
    have h := hp _ (List.getElem_mem hlt)
    refine Ev.succ ?_
    simp only [spec_Look.l0]
    rw [rd_at hlt]
    refine Ev.pos (by omega) (Ev.pos (by omega) (Ev.pos h.1 (Ev.pos h.2 (Ev.pos (by simp; omega) ?_))))
    have e : (ps.take i).map (rd dt) ++ [rd dt ps[i]] = (ps.take (i + 1)).map (rd dt) := by
      rw [List.take_succ_eq_append_getElem hlt, List.map_append]
      rfl
    rw [e, up i hlt (by omega)]
    exact ih (i + 1) (by omega) (by omega)
theorem look_both (ds dt dims ss : List Int) (off base : Int) (h1 : ds.length ≤ 1048576) (h2 : dt.length ≤ 1048576) (h3 : dims.length ≤ 1048576) (h4 : ss.length ≤ 1048576) :
    ∃ x y, Ev (fun k => spec_Look.f k ds dt dims ss off base) (x, y) ∧ Ev (fun k => impl_Look.f k ds dt dims ss off base) (x, y) ∧ x.length ≤ 1048576 ∧ y.length ≤ 1048576 := by
  obtain ⟨e1, e2⟩ := view_ev dims ss off base (by omega) (by omega)
  have t1 := stens_ev ds dt (by omega) (by omega)
  have t2 := itens_ev ds dt (by omega) (by omega)
  unfold spec_Look.f impl_Look.f
  cases ht : tensB ds dt with
  | false =>
    rw [ht] at t1 t2
    refine ⟨[], [], Ev.bind t1 (Ev.neg (by simp) (Ev.succ ?_)), Ev.bind t2 (Ev.neg (by simp) (Ev.some rfl)), by simp, by simp⟩
    simp only [spec_Look.j0]
    exact Ev.pos (by trivial) (Ev.some rfl)
  | true =>
    rw [ht] at t1 t2
    cases hv : viewB dims ss off base with
    | false =>
      rw [hv] at e1 e2
      refine ⟨[], [], Ev.bind t1 (Ev.pos rfl (Ev.bind e1 (Ev.neg (by simp) (Ev.succ ?_)))), Ev.bind t2 (Ev.pos rfl (Ev.bind e2 (Ev.neg (by simp) (Ev.some rfl)))), by simp, by simp⟩
      simp only [spec_Look.j0]
      exact Ev.pos (by trivial) (Ev.some rfl)
    | true =>
      have hv0 := hv
      rw [hv] at e1 e2
      obtain ⟨q1, q2, q3, q4, q5, q6, q7, q8, q9, q10⟩ := viewB_true hv0
      by_cases hb : base = (dt.length : Int)
      · have hl := plcs_len hv0
        have hp : ∀ p ∈ plcs dims ss off, 0 ≤ p ∧ p < (dt.length : Int) := by
          rw [← hb]
          exact (all_places dims ss off base (fun d hm => (run_all q2 d hm).1)).2 ⟨by omega, by omega⟩
        refine ⟨dims, (plcs dims ss off).map (rd dt), Ev.bind t1 (Ev.pos rfl (Ev.bind e1 (Ev.pos rfl (Ev.succ ?_)))), Ev.bind t2 (Ev.pos rfl (Ev.bind e2 (Ev.pos rfl (Ev.pos hb ?_)))), h3, by simp; omega⟩
        · simp only [spec_Look.j0]
          refine Ev.neg (by simp [hb]) (Ev.b (l3Ints_f dims (by omega)) (Ev.bind (all_ev dims ss off base q2 q1 q3 q8 q6 (by omega)) ?_))
          exact look_l dt (plcs dims ss off) ds dims hl hp _ 0 rfl (by omega)
        · unfold impl_shown.f
          refine Ev.bind (a := (dims, (plcs dims ss off).map (rd dt))) ?_ (Ev.some rfl)
          have pr := prod_le q2 0
          rw [List.drop_zero] at pr
          exact Ev.pos ⟨by omega, by omega⟩ (Ev.bind (product_ev dims (by omega) q2) (Ev.pos ⟨by omega, by omega⟩ (Ev.bind (spotsF_ev hv0) (Ev.pos ⟨by omega, hp⟩ (Ev.some rfl)))))
      · refine ⟨[], [], Ev.bind t1 (Ev.pos rfl (Ev.bind e1 (Ev.pos rfl (Ev.succ ?_)))), Ev.bind t2 (Ev.pos rfl (Ev.bind e2 (Ev.pos rfl (Ev.neg hb (Ev.some rfl))))), by simp, by simp⟩
        simp only [spec_Look.j0]
        exact Ev.pos (by simp [hb]) (Ev.some rfl)
theorem rest (l0 l1 v0 v1 : List Int) (o b : Int) (x y : List Int) (h0 : l0.length ≤ 1048576) (h1 : l1.length ≤ 1048576) (h2 : v0.length ≤ 1048576) (h3 : v1.length ≤ 1048576) (hx : x.length ≤ 1048576) (hy : y.length ≤ 1048576) (hi : Ev (fun k => impl_Look.f k l0 l1 v0 v1 o b) (x, y)) : Ev (fun k => laws_FnExactLook.j0 k false l0 l1 v0 v1 o b x y x y) true := by
  have m := markTensor_ev x y hx hy
  have h : Ev (fun k => laws_heldTensor.f k (ups 1 x.length) (ups (1 + (x.length : Int)) y.length) 1) (1 + (x.length : Int) + y.length) := by
    unfold laws_heldTensor.f
    exact Ev.bind (held_ev x.length 1 (by omega) (by omega)) (Ev.neg (by omega) (Ev.bind (held_ev y.length _ (by omega) (by omega)) (Ev.neg (by omega) (Ev.some rfl))))
  refine Ev.succ ?_
  simp only [laws_FnExactLook.j0]
  exact Ev.neg (by simp) (Ev.bind m (Ev.bind h (Ev.neg (by omega) (Ev.pos rfl (Ev.bind (toTensor_ev l0 l1 h0 h1) (Ev.bind (view_to v0 v1 o b h2 h3) (Ev.bind hi (Ev.bind (eqTensor_ev x y hx hy) (Ev.pos rfl (Ev.bind h (Ev.neg (by omega) (Ev.pos rfl (Ev.some rfl)))))))))))))
theorem FnExactLook (l0 l1 v0 v1 : List Int) (o b : Int) {p q p2 q2 : Int → Prop} {G : Prop} (hg : (l0.length ≤ maxLen ∧ ∀ y ∈ l0, p y) ∧ (l1.length ≤ maxLen ∧ ∀ y ∈ l1, q y)) (hv : (v0.length ≤ maxLen ∧ ∀ y ∈ v0, p2 y) ∧ (v1.length ≤ maxLen ∧ ∀ y ∈ v1, q2 y) ∧ G) : ∃ k, laws_FnExactLook.f k l0 l1 v0 v1 o b = some true := by
  have h0 : l0.length ≤ 9223372036854775807 := hg.1.1
  have h1 : l1.length ≤ 9223372036854775807 := hg.2.1
  have h2 : v0.length ≤ 9223372036854775807 := hv.1.1
  have h3 : v1.length ≤ 9223372036854775807 := hv.2.1.1
  apply Ev.rounds
  unfold laws_FnExactLook.f
  obtain ⟨q, hq, hz⟩ := szTensorN l0 l1 h0 h1
  refine Ev.b hq ?_
  rcases hz with hz | ⟨hz, hz2, g0, g1⟩
  · exact Ev.pos hz (Ev.some rfl)
  refine Ev.neg (by omega) ?_
  obtain ⟨q', hq', hz'⟩ := sz_viewA v0 v1 o b q h2 h3 hz hz2
  refine Ev.b hq' ?_
  rcases hz' with hz' | ⟨hz', g2, g3⟩
  · exact Ev.pos hz' (Ev.some rfl)
  refine Ev.neg (by omega) ?_
  have t := toTensor_ev l0 l1 g0 g1
  have tv := view_to v0 v1 o b g2 g3
  obtain ⟨x, y, hs, hi, hx, hy⟩ := look_both l0 l1 v0 v1 o b g0 g1 g2 g3
  refine Ev.bind t (Ev.bind tv (Ev.bind hs (Ev.bind t (Ev.bind tv (Ev.bind hi (Ev.bind (eqTensor_ev x y hx hy) (Ev.pos rfl (Ev.bind t (Ev.bind (eqTensor_ev l0 l1 g0 g1) (Ev.pos rfl (Ev.bind tv (Ev.bind (view_eq v0 v1 o b g2 g3) (Ev.pos rfl (Ev.bind (markTensor_ev l0 l1 g0 g1) (Ev.bind (view_markA v0 v1 o b _ g2 g3 (by dsimp only; omega) (by dsimp only; omega)) (Ev.neg (by dsimp only; omega) (Ev.bind (eqTensor_ev x y hx hy) ?_)))))))))))))))))
  exact rest l0 l1 v0 v1 o b x y g0 g1 g2 g3 hx hy hi
end Go.Proofs.Ytcpemdedmepfeac.PureFnExactLook
