/- What the reference's Route says and what the program's Route says is one and the same list of experts and places; out of the printed functions. -/
import Derived.Test.YtpoblnigmfbnfabPFnExactRoutex6
import Derived.Test.YtpoblnigmfbnfabBase
import Derived.Test.YtpoblnigmfbnfabVM
namespace Go.Proofs.Ytpoblnigmfbnfab.PureFnExactRoute
set_option linter.unusedVariables false
set_option linter.unusedSimpArgs false
open Go.RowKit Go.Proofs.Ytpoblnigmfbnfab.PFnExactRoute Go.Proofs.YtpoblnigmfbnfabW.PrintWords Go.Proofs.YtpoblnigmfbnfabW.PrintLast Go.Proofs.YtpoblnigmfbnfabW.PrintMore Go.Proofs.Ytpoblnigmfbnfab.Base Go.Proofs.Ytpoblnigmfbnfab.VM
/-! ### lists of whole numbers taken over and held against each other -/
theorem toIntS_l (l : List Int) (hn : l.length ≤ 9223372036854775807) : ∀ (d i : Nat), l.length - i = d → i ≤ l.length → Ev (fun k => laws_toIntS.l0 k l (l.take i ++ List.replicate (l.length - i) 0) (i : Int)) l := by
  intro d
  induction d with
  | zero =>
    intro i hd hi
    refine Ev.succ ?_
    simp only [laws_toIntS.l0]
    refine Ev.neg (by omega) (Ev.some ?_)
    rw [hd, List.take_of_length_le (by omega)]
    simp
  | succ d ih =>
    intro i hd hi
    refine Ev.succ ?_
    simp only [laws_toIntS.l0]
    have hlt : i < l.length := by omega
    refine Ev.pos (by omega) (Ev.pos (by omega) (Ev.pos (by simp; omega) ?_))
    rw [rd_at hlt, up i hlt hn, Int.toNat_natCast, set_copy hlt]
    exact ih (i + 1) (by omega) (by omega)
theorem toIntS_ev (l : List Int) (h : l.length ≤ 35184372088832) : Ev (fun k => laws_toIntS.f k l) l := by
  unfold laws_toIntS.f
  refine Ev.pos (by omega) (Ev.pos (by omega) ?_)
  have := toIntS_l l (by omega) l.length 0 (by omega) (by omega)
  simpa using this
theorem eqIntS_l (l : List Int) (hn : l.length ≤ 9223372036854775807) : ∀ (d i : Nat), l.length - i = d → i ≤ l.length → Ev (fun k => laws_eqIntS.l0 k l l (i : Int)) true := by
  intro d
  induction d with
  | zero =>
    intro i hd hi
    refine Ev.succ ?_
    simp only [laws_eqIntS.l0]
    exact Ev.neg (by omega) (Ev.some rfl)
  | succ d ih =>
    intro i hd hi
    refine Ev.succ ?_
    simp only [laws_eqIntS.l0]
    have hlt : i < l.length := by omega
    refine Ev.pos (by omega) (Ev.pos (by omega) (Ev.pos (by omega) (Ev.pos (by trivial) ?_)))
    rw [up i hlt hn]
    exact ih (i + 1) (by omega) (by omega)
theorem eqIntS_ev (l : List Int) (h : l.length ≤ 9223372036854775807) : Ev (fun k => laws_eqIntS.f k l l) true := by
  unfold laws_eqIntS.f
  exact Ev.pos rfl (eqIntS_l l (by omega) l.length 0 (by omega) (by omega))
/-! ### marks: written into what was made, and found there again -/
def ups (a : Int) : Nat → List Int
  | 0 => []
  | n + 1 => a :: ups (a + 1) n
theorem ups_len : ∀ (n : Nat) (a : Int), (ups a n).length = n
  | 0, _ => rfl
  | n + 1, a => by simp [ups, ups_len n]
theorem ups_at : ∀ (n : Nat) (a : Int) (i : Nat) (h : i < (ups a n).length), (ups a n)[i] = a + i
  | 0, _, _, h => by simp [ups] at h
  | n + 1, a, 0, _ => by simp [ups]
  | n + 1, a, i + 1, h => by
    simp only [ups, List.getElem_cons_succ]
    rw [ups_at n (a + 1) i (by simpa [ups] using h)]
    omega
theorem set_over {β : Type} {L l : List β} {i : Nat} (h : i < L.length) (hl : l.length = L.length) : (L.take i ++ l.drop i).set i L[i] = L.take (i + 1) ++ l.drop (i + 1) := by
  have h' : i < l.length := by omega
  rw [List.drop_eq_getElem_cons h', List.set_append_right _ _ (by simp; omega), List.length_take, Nat.min_eq_left (by omega), Nat.sub_self, List.set_cons_zero, List.take_succ_eq_append_getElem h, List.append_assoc]
  rfl
theorem mark_l (l : List Int) (a : Int) (h0 : 0 ≤ a) (h1 : a + l.length ≤ 4611686018427387904) : ∀ (d i : Nat), l.length - i = d → i ≤ l.length → Ev (fun k => laws_markIntS.l0 k ((ups a l.length).take i ++ l.drop i) (a + i) (i : Int)) (a + l.length, ups a l.length) := by
  intro d
  induction d with
  | zero =>
    intro i hd hi
    refine Ev.succ ?_
    simp only [laws_markIntS.l0]
    have e : (ups a l.length).take i ++ l.drop i = ups a l.length := by
      rw [List.drop_eq_nil_of_le (by omega), List.append_nil, List.take_of_length_le (by rw [ups_len]; omega)]
    rw [e]
    exact Ev.neg (by rw [ups_len]; omega) (Ev.some (by rw [show i = l.length by omega]))
  | succ d ih =>
    intro i hd hi
    refine Ev.succ ?_
    simp only [laws_markIntS.l0]
    have hu : i < (ups a l.length).length := by rw [ups_len]; omega
    refine Ev.pos (by simp [ups_len]; omega) (Ev.pos (by omega) ?_)
    have e := set_over hu (l := l) (by rw [ups_len])
    rw [ups_at l.length a i hu] at e
    rw [Int.toNat_natCast, e, up i (by omega : i < l.length) (by omega), wrap_id (by omega) (by omega), show a + (i : Int) + 1 = a + ((i + 1 : Nat) : Int) by omega]
    exact ih (i + 1) (by omega) (by omega)
theorem mark_ev (l : List Int) (a : Int) (h0 : 0 ≤ a) (h1 : a + l.length ≤ 4611686018427387904) : Ev (fun k => laws_markIntS.f k l a) (a + l.length, ups a l.length) := by
  unfold laws_markIntS.f
  have := mark_l l a h0 h1 l.length 0 (by omega) (by omega)
  simpa using this
theorem held_l (n : Nat) (a : Int) (h0 : 0 ≤ a) (h1 : a + n ≤ 4611686018427387904) : ∀ (d i : Nat), n - i = d → i ≤ n → Ev (fun k => laws_heldIntS.l0 k (ups a n) (a + i) (i : Int)) (a + n) := by
  intro d
  induction d with
  | zero =>
    intro i hd hi
    refine Ev.succ ?_
    simp only [laws_heldIntS.l0]
    exact Ev.neg (by rw [ups_len]; omega) (Ev.some (by rw [show i = n by omega]))
  | succ d ih =>
    intro i hd hi
    refine Ev.succ ?_
    simp only [laws_heldIntS.l0]
    have hu : i < (ups a n).length := by rw [ups_len]; omega
    refine Ev.pos (by omega) (Ev.pos (by omega) ?_)
    rw [rd_at hu, ups_at n a i hu, up i (by omega : i < n) (by omega), wrap_id (by omega) (by omega), show a + (i : Int) + 1 = a + ((i + 1 : Nat) : Int) by omega]
    exact Ev.pos rfl (ih (i + 1) (by omega) (by omega))
theorem held_ev (n : Nat) (a : Int) (h0 : 0 ≤ a) (h1 : a + n ≤ 4611686018427387904) : Ev (fun k => laws_heldIntS.f k (ups a n) a) (a + n) := by
  unfold laws_heldIntS.f
  have := held_l n a h0 h1 n 0 (by omega) (by omega)
  simpa using this
/-! ### lengths -/
theorem size_l (l : List Int) (hn : l.length ≤ 9223372036854775807) : ∀ (d i : Nat) (n : Int), l.length - i = d → i ≤ l.length → 1 ≤ n → n ≤ 4096 → Ev (fun k => spec_l3Size.l0 k l n (i : Int)) (if runOk n (l.drop i) = true then n * prod (l.drop i) else 0) := by
  intro d
  induction d with
  | zero =>
    intro i n hd hi h0 h1
    refine Ev.succ ?_
    simp only [spec_l3Size.l0]
    refine Ev.neg (by omega) (Ev.some ?_)
    rw [List.drop_eq_nil_of_le (by omega)]
    simp [runOk, prod]
  | succ d ih =>
    intro i n hd hi h0 h1
    have hlt : i < l.length := by omega
    refine Ev.succ ?_
    simp only [spec_l3Size.l0]
    refine Ev.pos (by omega) (Ev.pos (by omega) ?_)
    rw [rd_at hlt, drop_at hlt]
    refine Ev.ite (fun h => Ev.succ ?_) (fun h => Ev.succ ?_)
    · simp only [spec_l3Size.j1]
      refine Ev.pos (by trivial) (Ev.some ?_)
      simp [runOk, h]
    · simp only [spec_l3Size.j1]
      by_cases h2 : 4096 < l[i]
      · refine Ev.pos (by simpa using h2) (Ev.some ?_)
        simp [runOk, h, h2]
      · have p1 : n * l[i] ≤ 4096 * 4096 := Int.mul_le_mul h1 (by omega) (by omega) (by omega)
        have p0 : 1 * 1 ≤ n * l[i] := Int.mul_le_mul h0 (by omega) (by omega) (by omega)
        refine Ev.neg (by simpa using h2) (Ev.pos (by omega) (Ev.pos (by omega) ?_))
        rw [rd_at hlt, wrap_id (by omega : -9223372036854775808 ≤ n * l[i]) (by omega), up i hlt hn]
        refine Ev.ite (fun h3 => Ev.some ?_) (fun h3 => ?_)
        · simp [runOk, h, h2, show 4096 < n * l[i] from h3]
        · have e : runOk n (l[i] :: l.drop (i + 1)) = runOk (n * l[i]) (l.drop (i + 1)) := by
            simp [runOk, h, h2, show ¬ 4096 < n * l[i] from h3]
          rw [e]
          simp only [prod]
          rw [← Int.mul_assoc]
          exact ih (i + 1) _ (by omega) (by omega) (by omega) (by omega)
theorem size_ev (l : List Int) (hn : l.length ≤ 9223372036854775807) : Ev (fun k => spec_l3Size.f k l) (if runOk 1 l = true then prod l else 0) := by
  have := size_l l hn l.length 0 1 (by omega) (by omega) (by omega) (by omega)
  rw [Int.one_mul] at this
  exact this
/-- Lengths that can be. -/
def dimsB (l : List Int) : Bool := decide (l.length ≤ 6) && runOk 1 l
theorem sdims_ev (l : List Int) (hn : l.length ≤ 9223372036854775807) : Ev (fun k => spec_DimsOk.f k l) (dimsB l) := by
  unfold spec_DimsOk.f dimsB
  refine Ev.ite (fun h => Ev.bind (size_ev l hn) (Ev.some ?_)) (fun h => Ev.some ?_)
  · rw [show decide (l.length ≤ 6) = true from decide_eq_true (by omega), Bool.true_and]
    cases hr : runOk 1 l with
    | true =>
      have := prod_pos hr
      simp
      omega
    | false => simp
  · rw [show decide (l.length ≤ 6) = false from decide_eq_false (by omega)]
    rfl
theorem idims_l (l : List Int) (hn : l.length ≤ 9223372036854775807) : ∀ (d i : Nat) (n : Int), l.length - i = d → i ≤ l.length → 1 ≤ n → n ≤ 4096 → Ev (fun k => impl_DimsOk.l0 k l n l (l.length : Int) (i : Int)) (decide (l.length ≤ 6) && runOk n (l.drop i)) := by
  intro d
  induction d with
  | zero =>
    intro i n hd hi h0 h1
    refine Ev.succ ?_
    simp only [impl_DimsOk.l0]
    refine Ev.neg (by omega) (Ev.some ?_)
    rw [List.drop_eq_nil_of_le (by omega)]
    simp only [runOk, Bool.and_true]
    exact decide_eq_decide.2 (by omega)
  | succ d ih =>
    intro i n hd hi h0 h1
    have hlt : i < l.length := by omega
    refine Ev.succ ?_
    simp only [impl_DimsOk.l0]
    refine Ev.pos (by omega) (Ev.pos (by omega) (Ev.pos (by omega) ?_))
    rw [rd_at hlt, drop_at hlt]
    refine Ev.ite (fun h => Ev.succ ?_) (fun h => Ev.succ ?_)
    · simp only [impl_DimsOk.j1]
      refine Ev.pos (by trivial) (Ev.some ?_)
      simp [runOk, h]
    · simp only [impl_DimsOk.j1]
      by_cases h2 : 4096 < l[i]
      · refine Ev.pos (by simpa using h2) (Ev.some ?_)
        simp [runOk, h, h2]
      · have p1 : n * l[i] ≤ 4096 * 4096 := Int.mul_le_mul h1 (by omega) (by omega) (by omega)
        have p0 : 1 * 1 ≤ n * l[i] := Int.mul_le_mul h0 (by omega) (by omega) (by omega)
        refine Ev.neg (by simpa using h2) ?_
        rw [wrap_id (by omega : -9223372036854775808 ≤ n * l[i]) (by omega), up i hlt hn]
        refine Ev.ite (fun h3 => Ev.some ?_) (fun h3 => ?_)
        · simp [runOk, h, h2, show 4096 < n * l[i] from h3]
        · have e : runOk n (l[i] :: l.drop (i + 1)) = runOk (n * l[i]) (l.drop (i + 1)) := by
            simp [runOk, h, h2, show ¬ 4096 < n * l[i] from h3]
          rw [e]
          exact ih (i + 1) _ (by omega) (by omega) (by omega) (by omega)
theorem idims_ev (l : List Int) (hn : l.length ≤ 9223372036854775807) : Ev (fun k => impl_DimsOk.f k l) (dimsB l) := idims_l l hn l.length 0 1 (by omega) (by omega) (by omega) (by omega)
theorem product_l (l : List Int) (hn : l.length ≤ 9223372036854775807) : ∀ (d i : Nat) (n : Int), l.length - i = d → i ≤ l.length → 1 ≤ n → n ≤ 4096 → runOk n (l.drop i) = true → Ev (fun k => impl_product.l0 k n l (l.length : Int) (i : Int)) (n * prod (l.drop i)) := by
  intro d
  induction d with
  | zero =>
    intro i n hd hi h0 h1 hr
    refine Ev.succ ?_
    simp only [impl_product.l0]
    refine Ev.neg (by omega) (Ev.some ?_)
    rw [List.drop_eq_nil_of_le (by omega)]
    simp [prod]
  | succ d ih =>
    intro i n hd hi h0 h1 hr
    have hlt : i < l.length := by omega
    rw [drop_at hlt] at hr ⊢
    obtain ⟨h2, h3, h4, h5⟩ := runOk_cons hr
    have p0 : 1 * 1 ≤ n * l[i] := Int.mul_le_mul h0 h2 (by omega) (by omega)
    refine Ev.succ ?_
    simp only [impl_product.l0]
    refine Ev.pos (by omega) (Ev.pos (by omega) (Ev.pos (by omega) ?_))
    rw [rd_at hlt, up i hlt hn, wrap_id (by omega : -9223372036854775808 ≤ n * l[i]) (by omega)]
    simp only [prod]
    rw [← Int.mul_assoc]
    exact ih (i + 1) _ (by omega) (by omega) (by omega) h4 h5
theorem product_ev (l : List Int) (hn : l.length ≤ 9223372036854775807) (hr : runOk 1 l = true) : Ev (fun k => impl_product.f k l) (prod l) := by
  have := product_l l hn l.length 0 1 (by omega) (by omega) (by omega) (by omega) hr
  rw [Int.one_mul] at this
  exact this
/-! ### tensors that can be -/
def numB (x : Int) : Bool := decide (0 ≤ x) && decide (x < 2147483647)
def tensB (dims data : List Int) : Bool := dimsB dims && (decide ((data.length : Int) = prod dims) && data.all numB)
theorem stens_l (dims l : List Int) (hn : l.length ≤ 9223372036854775807) : ∀ (d i : Nat), l.length - i = d → i ≤ l.length → Ev (fun k => spec_TensorOk.l0 k (i : Int) dims l) ((l.drop i).all numB) := by
  intro d
  induction d with
  | zero =>
    intro i hd hi
    refine Ev.succ ?_
    simp only [spec_TensorOk.l0]
    refine Ev.neg (by omega) (Ev.some ?_)
    rw [List.drop_eq_nil_of_le (by omega)]
    rfl
  | succ d ih =>
    intro i hd hi
    have hlt : i < l.length := by omega
    refine Ev.succ ?_
    simp only [spec_TensorOk.l0]
    refine Ev.pos (by omega) (Ev.pos (by omega) ?_)
    rw [rd_at hlt, drop_at hlt, List.all_cons, up i hlt hn]
    refine Ev.ite (fun h => Ev.some ?_) (fun h => Ev.ite (fun h2 => Ev.some ?_) (fun h2 => ?_))
    · simp [numB, show ¬ (0 ≤ l[i]) by omega]
    · simp [numB, show ¬ (l[i] < 2147483647) by omega]
    · rw [show numB l[i] = true by simp [numB]; omega, Bool.true_and]
      exact ih (i + 1) (by omega) (by omega)
theorem stens_ev (dims l : List Int) (hd : dims.length ≤ 9223372036854775807) (hn : l.length ≤ 9223372036854775807) : Ev (fun k => spec_TensorOk.f k dims l) (tensB dims l) := by
  unfold spec_TensorOk.f tensB
  refine Ev.bind (sdims_ev dims hd) ?_
  cases hb : dimsB dims with
  | false =>
    refine Ev.neg (by simp) (Ev.succ ?_)
    simp only [spec_TensorOk.j0]
    exact Ev.pos (by trivial) (Ev.some rfl)
  | true =>
    have hb' := hb
    unfold dimsB at hb'
    simp only [Bool.and_eq_true, decide_eq_true_eq] at hb'
    have e := size_ev dims hd
    rw [if_pos hb'.2] at e
    refine Ev.pos rfl (Ev.bind e (Ev.succ ?_))
    simp only [spec_TensorOk.j0, Bool.true_and]
    by_cases h : (l.length : Int) = prod dims
    · refine Ev.neg (by simpa using h) ?_
      rw [decide_eq_true h, Bool.true_and]
      exact stens_l dims l hn l.length 0 (by omega) (by omega)
    · refine Ev.pos (by simpa using h) (Ev.some ?_)
      rw [decide_eq_false h]
      rfl
theorem isnum_f (x : Int) : impl_isNum.f x = some (numB x) := by
  unfold impl_isNum.f numB
  split
  · next h => rw [decide_eq_true (show 0 ≤ x by omega), Bool.true_and]
  · next h => rw [decide_eq_false (show ¬ 0 ≤ x by omega), Bool.false_and]
theorem nums_l (l : List Int) (hn : l.length ≤ 9223372036854775807) : ∀ (d i : Nat), l.length - i = d → i ≤ l.length → Ev (fun k => impl_allNums.l0 k l (l.length : Int) (i : Int)) ((l.drop i).all numB) := by
  intro d
  induction d with
  | zero =>
    intro i hd hi
    refine Ev.succ ?_
    simp only [impl_allNums.l0]
    refine Ev.neg (by omega) (Ev.some ?_)
    rw [List.drop_eq_nil_of_le (by omega)]
    rfl
  | succ d ih =>
    intro i hd hi
    have hlt : i < l.length := by omega
    refine Ev.succ ?_
    simp only [impl_allNums.l0]
    refine Ev.pos (by omega) (Ev.pos (by omega) (Ev.pos (by omega) ?_))
    rw [rd_at hlt, drop_at hlt, List.all_cons, up i hlt hn]
    refine Ev.b (isnum_f _) ?_
    cases numB l[i] with
    | false => exact Ev.neg (by simp) (Ev.some rfl)
    | true => exact Ev.pos rfl (ih (i + 1) (by omega) (by omega))
theorem nums_ev (l : List Int) (hn : l.length ≤ 9223372036854775807) : Ev (fun k => impl_allNums.f k l) (l.all numB) := by
  unfold impl_allNums.f
  exact nums_l l hn l.length 0 (by omega) (by omega)
theorem itens_ev (dims l : List Int) (hd : dims.length ≤ 9223372036854775807) (hn : l.length ≤ 9223372036854775807) : Ev (fun k => impl_TensorOk.f k dims l) (tensB dims l) := by
  unfold impl_TensorOk.f tensB
  refine Ev.bind (idims_ev dims hd) ?_
  cases hb : dimsB dims with
  | false => exact Ev.neg (by simp) (Ev.some rfl)
  | true =>
    have hb' := hb
    unfold dimsB at hb'
    simp only [Bool.and_eq_true, decide_eq_true_eq] at hb'
    refine Ev.pos rfl (Ev.bind (product_ev dims hd hb'.2) ?_)
    rw [Bool.true_and]
    refine Ev.ite (fun h => ?_) (fun h => ?_)
    · rw [decide_eq_true h, Bool.true_and]
      exact Ev.bind (nums_ev l hn) (Ev.some rfl)
    · rw [decide_eq_false h]
      exact Ev.some rfl
theorem toTensor_ev (a b : List Int) (ha : a.length ≤ 1048576) (hb : b.length ≤ 1048576) : Ev (fun k => laws_toTensor.f k a b) (a, b) := by
  unfold laws_toTensor.f
  exact Ev.bind (toIntS_ev a (by omega)) (Ev.bind (toIntS_ev b (by omega)) (Ev.some rfl))
theorem eqTensor_ev (a b : List Int) (ha : a.length ≤ 1048576) (hb : b.length ≤ 1048576) : Ev (fun k => laws_eqTensor.f k a b a b) true := by
  unfold laws_eqTensor.f
  exact Ev.bind (eqIntS_ev a (by omega)) (Ev.pos rfl (Ev.bind (eqIntS_ev b (by omega)) (Ev.pos rfl (Ev.some rfl))))
theorem markTensor_ev (a b : List Int) (ha : a.length ≤ 1048576) (hb : b.length ≤ 1048576) : Ev (fun k => laws_markTensor.f k a b 1) (1 + (a.length : Int) + b.length, ups 1 a.length, ups (1 + (a.length : Int)) b.length) := by
  unfold laws_markTensor.f
  exact Ev.bind (mark_ev a 1 (by omega) (by omega)) (Ev.bind (mark_ev b _ (by omega) (by omega)) (Ev.some rfl))
theorem szTensor_f (a b : List Int) (ha : a.length ≤ 9223372036854775807) (hb : b.length ≤ 9223372036854775807) : ∃ q, laws_szTensor.f a b 1048576 = some q ∧ (q < 0 ∨ (0 ≤ q ∧ a.length ≤ 1048576 ∧ b.length ≤ 1048576)) := by
  unfold laws_szTensor.f laws_szIntS.f
  rw [wrap_id (by omega) (by omega)]
  by_cases h : (1048576 : Int) - (a.length : Int) < 0
  · rw [if_pos h, Option.bind_some, if_pos (by omega)]
    exact ⟨_, rfl, .inl (by omega)⟩
  · rw [if_neg h, Option.bind_some, if_neg h, wrap_id (by omega) (by omega)]
    by_cases h2 : (1048576 : Int) - (a.length : Int) - (b.length : Int) < 0
    · rw [if_pos h2, Option.bind_some, if_pos (by omega)]
      exact ⟨_, rfl, .inl (by omega)⟩
    · rw [if_neg h2, Option.bind_some, if_neg h2]
      exact ⟨_, rfl, .inr ⟨by omega, by omega, by omega⟩⟩
/-! ### which expert a row goes tv -/
theorem signed_f (x : Int) : ∃ v, spec_Signed.f x = some v ∧ impl_Signed.f x = some v := by
  unfold spec_Signed.f impl_Signed.f spec_Mod.f impl_Mod.f
  split <;> simp only [Option.bind_some] <;> split <;> exact ⟨_, rfl, rfl⟩
theorem within_f (a b c : Int) : impl_within.f a b c = some (decide (b ≤ a) && decide (a ≤ c)) := by
  unfold impl_within.f
  split
  · next h => rw [decide_eq_true (show b ≤ a by omega), Bool.true_and]
  · next h => rw [decide_eq_false (show ¬ b ≤ a by omega), Bool.false_and]
theorem l5In_f (a b c : Int) : spec_l5In.f a b c = some (decide (b ≤ a) && decide (a ≤ c)) := within_f a b c
def sg (x : Int) : Int := (spec_Signed.f x).getD 0
theorem sg_s (x : Int) : spec_Signed.f x = some (sg x) := by
  obtain ⟨v, h, _⟩ := signed_f x
  unfold sg
  rw [h]
  rfl
theorem sg_i (x : Int) : impl_Signed.f x = some (sg x) := by
  obtain ⟨v, h, h2⟩ := signed_f x
  unfold sg
  rw [h, h2]
  rfl
/-- How often e stands there. -/
def cnt : List Int → Int → Int
  | [], _ => 0
  | x :: xs, e => (if x = e then 1 else 0) + cnt xs e
theorem cnt_le : ∀ (l : List Int) (e : Int), 0 ≤ cnt l e ∧ cnt l e ≤ l.length
  | [], _ => ⟨Int.le_refl _, Int.le_refl _⟩
  | x :: xs, e => by
    have := cnt_le xs e
    simp only [cnt, List.length_cons]
    split <;> omega
theorem cnt_app : ∀ (l : List Int) (b e : Int), cnt (l ++ [b]) e = cnt l e + (if b = e then 1 else 0)
  | [], b, e => by simp [cnt]
  | x :: xs, b, e => by
    simp only [List.cons_append, cnt, cnt_app xs b e]
    omega
def pick (tv row : List Int) (most : Int) : Nat → Nat → Int → Int
  | 0, _, b => b
  | d + 1, j, b => pick tv row most d (j + 1) (if cnt tv (j : Int) < most then (if b < 0 then (j : Int) else if sg (rd row (j : Int)) > sg (rd row b) then (j : Int) else b) else b)
def atOf (tv : List Int) (b : Int) : Int := if b < 0 then -1 else cnt tv b
def rowOf (data : List Int) (E t : Nat) : List Int := (data.take ((t + 1) * E)).drop (t * E)
def goes (data : List Int) (E : Nat) (most : Int) : Nat → Nat → List Int → List Int → List Int × List Int
  | 0, _, tv, pl => (tv, pl)
  | d + 1, t, tv, pl => goes data E most d (t + 1) (tv ++ [pick tv (rowOf data E t) most E 0 (-1)]) (pl ++ [atOf tv (pick tv (rowOf data E t) most E 0 (-1))])
theorem goes_len (data : List Int) (E : Nat) (most : Int) : ∀ (d t : Nat) (tv pl : List Int), (goes data E most d t tv pl).1.length = tv.length + d ∧ (goes data E most d t tv pl).2.length = pl.length + d
  | 0, _, _, _ => ⟨rfl, rfl⟩
  | d + 1, t, tv, pl => by
    have := goes_len data E most d (t + 1) (tv ++ [pick tv (rowOf data E t) most E 0 (-1)]) (pl ++ [atOf tv (pick tv (rowOf data E t) most E 0 (-1))])
    simp only [goes, List.length_append, List.length_singleton] at this ⊢
    omega
theorem row_len {data : List Int} {E t : Nat} (h : (t + 1) * E ≤ data.length) : (rowOf data E t).length = E := by
  unfold rowOf
  rw [List.length_drop, List.length_take, Nat.min_eq_left h, Nat.succ_mul]
  omega
theorem l5row_f (dims data : List Int) (t : Int) (E p : Nat) (hl : dims.length = 2) (r1 : rd dims 1 = (E : Int)) (hw : wrap64 (t * (E : Int)) = (p : Int)) (h : p + E ≤ data.length) (hb : data.length ≤ 1048576) : spec_l5Row.f dims data t = some ((data.take (p + E)).drop p) := by
  unfold spec_l5Row.f
  have hw2 : wrap64 ((p : Int) + (E : Int)) = ((p + E : Nat) : Int) := by rw [wrap_id] <;> omega
  rw [r1, hw, hw2, Int.toNat_natCast, Int.toNat_natCast]
  rw [if_pos (show (1 : Int) < (dims.length : Int) by omega), if_pos (show (0 : Int) ≤ (p : Int) by omega), if_pos (show (p : Int) ≤ ((p + E : Nat) : Int) by omega), if_pos (show ((p + E : Nat) : Int) ≤ (data.length : Int) by omega)]
attribute [irreducible] rowOf
/-! the reference -/
theorem s_l2 (most : Int) (tv pl row dims data : List Int) (b a : Int) (j : Nat) (hj : j < row.length) (hr : row.length ≤ 4096) (ht : tv.length ≤ 4096) (hb : b < row.length) (v : List Int × List Int)
    (hc : Ev (fun k => spec_Route.l1 k most tv pl (tv.length : Int) row (if cnt tv (j : Int) < most then (if b < 0 then (j : Int) else if sg (rd row (j : Int)) > sg (rd row b) then (j : Int) else b) else b) (if cnt tv (j : Int) < most then (if b < 0 then cnt tv (j : Int) else if sg (rd row (j : Int)) > sg (rd row b) then cnt tv (j : Int) else a) else a) (wrap64 ((j : Int) + 1)) dims data) v) :
    ∀ (d i : Nat) (n : Int), tv.length - i = d → i ≤ tv.length → n + cnt (tv.drop i) (j : Int) = cnt tv (j : Int) → 0 ≤ n → n ≤ i → Ev (fun k => spec_Route.l2 k most tv pl (tv.length : Int) row b a (j : Int) n (i : Int) dims data) v := by
  intro d
  induction d with
  | zero =>
    intro i n hd hi hn h0 h1
    rw [List.drop_eq_nil_of_le (by omega)] at hn
    have hn : n = cnt tv (j : Int) := by simpa [cnt] using hn
    subst hn
    refine Ev.succ ?_
    simp only [spec_Route.l2]
    refine Ev.neg (by omega) (Ev.ite (fun h => ?_) (fun h => ?_))
    · rw [if_pos h, if_pos h] at hc
      refine Ev.ite (fun h2 => ?_) (fun h2 => ?_)
      · rw [if_pos h2, if_pos h2] at hc
        exact hc
      · rw [if_neg h2, if_neg h2] at hc
        refine Ev.pos (by omega) (Ev.pos (by omega) (Ev.b (sg_s _) (Ev.pos (by omega) (Ev.pos (by omega) (Ev.b (sg_s _) (Ev.ite (fun h3 => ?_) (fun h3 => ?_)))))))
        · rw [if_pos h3, if_pos h3] at hc
          exact hc
        · rw [if_neg h3, if_neg h3] at hc
          exact hc
    · rw [if_neg h, if_neg h] at hc
      exact hc
  | succ d ih =>
    intro i n hd hi hn h0 h1
    have hlt : i < tv.length := by omega
    rw [drop_at hlt] at hn
    simp only [cnt] at hn
    refine Ev.succ ?_
    simp only [spec_Route.l2]
    refine Ev.pos (by omega) (Ev.pos (by omega) (Ev.pos (by omega) ?_))
    rw [rd_at hlt, up i hlt (by omega)]
    refine Ev.ite (fun h => ?_) (fun h => ?_)
    · rw [if_pos h] at hn
      rw [wrap_id (by omega) (by omega)]
      exact ih (i + 1) (n + 1) (by omega) (by omega) (by omega) (by omega) (by omega)
    · rw [if_neg h] at hn
      exact ih (i + 1) n (by omega) (by omega) (by omega) (by omega) (by omega)
theorem pick_step {tv row : List Int} {most b : Int} {j : Nat} :
    atOf tv (if cnt tv (j : Int) < most then (if b < 0 then (j : Int) else if sg (rd row (j : Int)) > sg (rd row b) then (j : Int) else b) else b) = (if cnt tv (j : Int) < most then (if b < 0 then cnt tv (j : Int) else if sg (rd row (j : Int)) > sg (rd row b) then cnt tv (j : Int) else atOf tv b) else atOf tv b) := by
  have e : atOf tv (j : Int) = cnt tv (j : Int) := by
    unfold atOf
    rw [if_neg (by omega)]
  repeat' split
  all_goals first | rfl | exact e
theorem s_l1 (most : Int) (tv pl row dims data : List Int) (hr : row.length ≤ 4096) (ht : tv.length ≤ 4096) (hp : pl.length ≤ 4096) (V : Int → List Int × List Int)
    (hc : ∀ b, Ev (fun k => spec_Route.l0 k most (tv ++ [b]) (pl ++ [atOf tv b]) (wrap64 ((tv.length : Int) + 1)) dims data) (V b)) :
    ∀ (d j : Nat) (b : Int), row.length - j = d → j ≤ row.length → b < row.length → Ev (fun k => spec_Route.l1 k most tv pl (tv.length : Int) row b (atOf tv b) (j : Int) dims data) (V (pick tv row most d j b)) := by
  intro d
  induction d with
  | zero =>
    intro j b hd hj hb
    refine Ev.succ ?_
    simp only [spec_Route.l1, pick]
    exact Ev.neg (by omega) (Ev.pos (by omega) (Ev.pos (by omega) (hc b)))
  | succ d ih =>
    intro j b hd hj hb
    have hlt : j < row.length := by omega
    refine Ev.succ ?_
    simp only [spec_Route.l1, pick]
    refine Ev.pos (by omega) ?_
    refine s_l2 most tv pl row dims data b (atOf tv b) j hlt hr ht hb _ ?_ tv.length 0 0 (by omega) (by omega) (by simp) (by omega) (by omega)
    rw [← pick_step, up j hlt (by omega)]
    exact ih (j + 1) _ (by omega) (by omega) (by repeat' split
                                                 all_goals omega)
theorem mul_le_of {t T E : Nat} (h : t < T) : (t + 1) * E ≤ T * E := Nat.mul_le_mul_right E h
theorem s_l0 (most : Int) (dims data : List Int) (T E : Nat) (hd : dims = [(T : Int), (E : Int)]) (hx : data.length = T * E) (hT : T ≤ 4096) (hE : E ≤ 4096) (hTE : T * E ≤ 4096) (hE1 : 1 ≤ E) :
    ∀ (d t : Nat) (tv pl : List Int), T - t = d → t ≤ T → tv.length = t → pl.length = t → Ev (fun k => spec_Route.l0 k most tv pl (t : Int) dims data) (goes data E most d t tv pl) := by
  have r0 : rd dims 0 = (T : Int) := by rw [hd]; rfl
  have r1 : rd dims 1 = (E : Int) := by rw [hd]; rfl
  have hl : dims.length = 2 := by rw [hd]; rfl
  intro d
  induction d with
  | zero =>
    intro t tv pl hd ht h1 h2
    refine Ev.succ ?_
    simp only [spec_Route.l0, goes]
    refine Ev.pos (by omega) ?_
    rw [r0]
    exact Ev.neg (by omega) (Ev.some rfl)
  | succ d ih =>
    intro t tv pl hd ht h1 h2
    have hlt : t < T := by omega
    have hneg : (-1 : Int) < (E : Int) := by omega
    have hA : (t : Int) < (T : Int) := by omega
    have hm := mul_le_of (E := E) hlt
    have hB0 : (0 : Int) ≤ ((t * E : Nat) : Int) := Int.natCast_nonneg _
    have hB1 : ((t * E : Nat) : Int) ≤ (((t + 1) * E : Nat) : Int) := Int.ofNat_le.2 (Nat.mul_le_mul_right E (Nat.le_succ t))
    have hB2 : (((t + 1) * E : Nat) : Int) ≤ (data.length : Int) := Int.ofNat_le.2 (by rw [hx]; exact hm)
    have hm' : (t + 1) * E = t * E + E := Nat.succ_mul t E
    have ht' : t * E ≤ 4096 := by omega
    have hw : wrap64 ((t : Int) * (E : Int)) = ((t * E : Nat) : Int) := by
      rw [← Int.natCast_mul, wrap_id] <;> omega
    have er : spec_l5Row.f dims data (t : Int) = some (rowOf data E t) := by
      have := l5row_f dims data (t : Int) E (t * E) hl r1 hw (by omega) (by omega)
      rw [← hm'] at this
      unfold rowOf
      exact this
    have hrl : (rowOf data E t).length = E := row_len (by rw [hx]; exact hm)
    refine Ev.succ ?_
    simp only [spec_Route.l0, goes]
    refine Ev.pos (by omega) ?_
    rw [r0]
    refine Ev.pos (by omega) (Ev.b er ?_)
    have := s_l1 most tv pl (rowOf data E t) dims data (by rw [hrl]; exact hE) (by omega) (by omega) (fun b => goes data E most d (t + 1) (tv ++ [b]) (pl ++ [atOf tv b])) (fun b => by
      rw [h1, up t hlt (by omega)]
      exact ih (t + 1) _ _ (by omega) (by omega) (by simp [h1]) (by simp [h2])) E 0 (-1) (by rw [hrl]; rfl) (Nat.zero_le _) (by rw [hrl]; exact hneg)
    rw [h1] at this
    exact this
/-! the program -/
theorem set_cnt {tv full : List Int} {E : Nat} {b : Int} (hb0 : 0 ≤ b) (hb1 : b < (E : Int)) (hl : full.length = E) (hf : ∀ j : Nat, j < E → rd full (j : Int) = cnt tv (j : Int)) (w : Int) (hw : w = cnt tv b + 1) :
    ∀ j : Nat, j < E → rd (full.set b.toNat w) (j : Int) = cnt (tv ++ [b]) (j : Int) := by
  intro j hj
  rw [cnt_app, rd_at (by simp; omega), List.getElem_set]
  split
  · next h => rw [if_pos (by omega), hw, show b = (j : Int) by omega]
  · next h => rw [if_neg (by omega), Int.add_zero, ← hf j hj, rd_at (by omega)]
theorem i_l1 (most : Int) (tv pl full row dims data : List Int) (T E t : Nat) (hT : T ≤ 4096) (hE : row.length = E) (hfl : full.length = E) (hE4 : E ≤ 4096) (ht : tv.length ≤ 4096) (hp : pl.length ≤ 4096) (hf : ∀ j : Nat, j < E → rd full (j : Int) = cnt tv (j : Int)) (V : Int → List Int × List Int)
    (hc : ∀ b full', full'.length = E → (∀ j : Nat, j < E → rd full' (j : Int) = cnt (tv ++ [b]) (j : Int)) → Ev (fun k => impl_Route.l0 k most (tv ++ [b]) (pl ++ [atOf tv b]) (E : Int) full' (T : Int) (wrap64 ((t : Int) + 1)) dims data) (V b)) :
    ∀ (d j : Nat) (b : Int), E - j = d → j ≤ E → -1 ≤ b → b < E → Ev (fun k => impl_Route.l1 k most tv pl (E : Int) full b row (T : Int) (t : Int) row (E : Int) (j : Int) dims data) (V (pick tv row most d j b)) := by
  intro d
  induction d with
  | zero =>
    intro j b hd hj hb0 hb
    refine Ev.succ ?_
    simp only [impl_Route.l1, pick]
    refine Ev.neg (by omega) (Ev.ite (fun h => ?_) (fun h => ?_))
    · have hfb := hf b.toNat (by omega)
      rw [Int.toNat_of_nonneg h] at hfb
      have hcb := cnt_le tv b
      refine Ev.pos (by omega) (Ev.pos (by omega) (Ev.pos (by omega) (Ev.pos (by omega) ?_)))
      rw [hfb, wrap_id (by omega : -9223372036854775808 ≤ cnt tv b + 1) (by omega)]
      have e := hc b (full.set b.toNat (cnt tv b + 1)) (by simp [hfl]) (set_cnt h hb hfl hf _ rfl)
      rw [show atOf tv b = cnt tv b by unfold atOf; rw [if_neg (by omega)]] at e
      exact e
    · have e := hc b full hfl (fun j hj => by rw [cnt_app, if_neg (by omega), Int.add_zero]; exact hf j hj)
      rw [show atOf tv b = -1 by unfold atOf; rw [if_pos (by omega)]] at e
      exact Ev.pos (by omega) (Ev.pos (by omega) e)
  | succ d ih =>
    intro j b hd hj hb0 hb
    have hlt : j < E := by omega
    refine Ev.succ ?_
    simp only [impl_Route.l1, pick]
    refine Ev.pos (by omega) (Ev.pos (by omega) (Ev.pos (by omega) (Ev.pos (by omega) ?_)))
    rw [hf j hlt, up j hlt (by omega)]
    refine Ev.ite (fun h => ?_) (fun h => ?_)
    · rw [if_pos h]
      refine Ev.ite (fun h2 => ?_) (fun h2 => ?_)
      · rw [if_pos h2]
        exact ih (j + 1) _ (by omega) (by omega) (by omega) (by omega)
      · rw [if_neg h2]
        refine Ev.b (sg_i _) (Ev.pos (by omega) (Ev.pos (by omega) (Ev.b (sg_i _) (Ev.ite (fun h3 => ?_) (fun h3 => ?_)))))
        · rw [if_pos h3]
          exact ih (j + 1) _ (by omega) (by omega) (by omega) (by omega)
        · rw [if_neg h3]
          exact ih (j + 1) _ (by omega) (by omega) (by omega) (by omega)
    · rw [if_neg h]
      exact ih (j + 1) _ (by omega) (by omega) (by omega) (by omega)
theorem i_l0 (most : Int) (dims data : List Int) (T E : Nat) (hx : data.length = T * E) (hT : T ≤ 4096) (hE : E ≤ 4096) (hTE : T * E ≤ 4096) :
    ∀ (d t : Nat) (tv pl full : List Int), T - t = d → t ≤ T → tv.length = t → pl.length = t → full.length = E → (∀ j : Nat, j < E → rd full (j : Int) = cnt tv (j : Int)) → Ev (fun k => impl_Route.l0 k most tv pl (E : Int) full (T : Int) (t : Int) dims data) (goes data E most d t tv pl) := by
  intro d
  induction d with
  | zero =>
    intro t tv pl full hd ht h1 h2 h3 h4
    refine Ev.succ ?_
    simp only [impl_Route.l0, goes]
    exact Ev.neg (by omega) (Ev.some rfl)
  | succ d ih =>
    intro t tv pl full hd ht h1 h2 h3 h4
    have hlt : t < T := by omega
    have hneg : (-1 : Int) < (E : Int) := by omega
    have hA : (t : Int) < (T : Int) := by omega
    have hm := mul_le_of (E := E) hlt
    have hB0 : (0 : Int) ≤ ((t * E : Nat) : Int) := Int.natCast_nonneg _
    have hB1 : ((t * E : Nat) : Int) ≤ (((t + 1) * E : Nat) : Int) := Int.ofNat_le.2 (Nat.mul_le_mul_right E (Nat.le_succ t))
    have hB2 : (((t + 1) * E : Nat) : Int) ≤ (data.length : Int) := Int.ofNat_le.2 (by rw [hx]; exact hm)
    have hm' : (t + 1) * E = t * E + E := Nat.succ_mul t E
    have ht' : t * E ≤ 4096 := by omega
    have hw : wrap64 ((t : Int) * (E : Int)) = ((t * E : Nat) : Int) := by
      rw [← Int.natCast_mul, wrap_id] <;> omega
    have hw2 : wrap64 (((t + 1 : Nat) : Int) * (E : Int)) = (((t + 1) * E : Nat) : Int) := by
      rw [← Int.natCast_mul, wrap_id] <;> omega
    have hrl : (rowOf data E t).length = E := row_len (by rw [hx]; exact hm)
    refine Ev.succ ?_
    simp only [impl_Route.l0, goes]
    rw [up t hlt (by omega), hw, hw2, Int.toNat_natCast, Int.toNat_natCast]
    refine Ev.pos hA (Ev.pos hB0 (Ev.pos hB1 (Ev.pos hB2 ?_)))
    have := i_l1 most tv pl full (rowOf data E t) dims data T E t hT hrl h3 hE (by omega) (by omega) h4 (fun b => goes data E most d (t + 1) (tv ++ [b]) (pl ++ [atOf tv b])) (fun b full' hl' hf' => by
      rw [up t hlt (by omega)]
      exact ih (t + 1) _ _ full' (by omega) (by omega) (by simp [h1]) (by simp [h2]) hl' hf') E 0 (-1) rfl (Nat.zero_le _) (Int.le_refl _) hneg
    have eR : (data.take ((t + 1) * E)).drop (t * E) = rowOf data E t := by unfold rowOf; rfl
    rw [eR, hrl]
    exact this
theorem two_of {l : List Int} (h : (l.length : Int) = 2) : ∃ a b, l = [a, b] := by
  match l, h with
  | [a, b], _ => exact ⟨a, b, rfl⟩
  | [], h => simp at h
  | [_], h => simp at h
  | _ :: _ :: _ :: _, h => simp at h; omega
theorem route_both (dims data : List Int) (most : Int) (h1 : dims.length ≤ 1048576) (h2 : data.length ≤ 1048576) : ∃ a b, Ev (fun k => spec_Route.f k dims data most) (a, b) ∧ Ev (fun k => impl_Route.f k dims data most) (a, b) ∧ a.length ≤ 4096 ∧ b.length ≤ 4096 := by
  have s0 : ∀ x6 x7, Ev (fun k => spec_Route.j0 k most x6 x7 true dims data) (x6, x7) := by
    intro x6 x7
    refine Ev.succ ?_
    simp only [spec_Route.j0]
    exact Ev.pos (by trivial) (Ev.some rfl)
  have i0 : Ev (fun k => impl_Route.j0 k most true dims data) ([], []) := by
    refine Ev.succ ?_
    simp only [impl_Route.j0]
    exact Ev.pos (by trivial) (Ev.some rfl)
  have ts := stens_ev dims data (by omega) (by omega)
  have ti := itens_ev dims data (by omega) (by omega)
  unfold spec_Route.f impl_Route.f
  cases hb : tensB dims data with
  | false =>
    rw [hb] at ts ti
    exact ⟨[], [], Ev.b rfl (Ev.b rfl (Ev.bind ts (Ev.neg (by simp) (s0 _ _)))), Ev.bind ti (Ev.neg (by simp) i0), by simp, by simp⟩
  | true =>
    rw [hb] at ts ti
    by_cases hl : (dims.length : Int) = 2
    · cases hw : (decide ((1 : Int) ≤ most) && decide (most ≤ 4096)) with
      | false =>
        have e1 := l5In_f most 1 4096
        have e2 := within_f most 1 4096
        rw [hw] at e1 e2
        exact ⟨[], [], Ev.b rfl (Ev.b rfl (Ev.bind ts (Ev.pos rfl (Ev.pos hl (Ev.b e1 (s0 _ _)))))), Ev.bind ti (Ev.pos rfl (Ev.pos hl (Ev.b e2 i0))), by simp, by simp⟩
      | true =>
        have e1 := l5In_f most 1 4096
        have e2 := within_f most 1 4096
        rw [hw] at e1 e2
        obtain ⟨a, b, hd⟩ := two_of hl
        unfold tensB dimsB at hb
        simp only [Bool.and_eq_true, decide_eq_true_eq] at hb
        have hall := run_all hb.1.2
        have ha := hall a (by rw [hd]; simp)
        have hbb := hall b (by rw [hd]; simp)
        have hp := prod_le hb.1.2 0
        rw [List.drop_zero] at hp
        obtain ⟨T, rfl⟩ := Int.eq_ofNat_of_zero_le (show 0 ≤ a by omega)
        obtain ⟨E, rfl⟩ := Int.eq_ofNat_of_zero_le (show 0 ≤ b by omega)
        have hpe : prod dims = ((T * E : Nat) : Int) := by
          rw [hd]
          simp only [prod]
          rw [Int.mul_one, Int.natCast_mul]
        have hx : data.length = T * E := by omega
        have hTE : T * E ≤ 4096 := by omega
        have L := goes_len data E most T 0 [] []
        refine ⟨(goes data E most T 0 [] []).1, (goes data E most T 0 [] []).2, Ev.b rfl (Ev.b rfl (Ev.bind ts (Ev.pos rfl (Ev.pos hl (Ev.b e1 (Ev.succ ?_)))))), Ev.bind ti (Ev.pos rfl (Ev.pos hl (Ev.b e2 (Ev.succ ?_)))), by rw [L.1]; simp; omega, by rw [L.2]; simp; omega⟩
        · simp only [spec_Route.j0]
          exact Ev.neg (by simp) (s_l0 most dims data T E hd hx (by omega) (by omega) hTE (by omega) T 0 [] [] (by omega) (by omega) rfl rfl)
        · simp only [impl_Route.j0]
          have r0 : rd dims 0 = (T : Int) := by rw [hd]; rfl
          have r1 : rd dims 1 = (E : Int) := by rw [hd]; rfl
          rw [r0, r1]
          refine Ev.neg (by simp) (Ev.pos (by omega) (Ev.pos (by omega) (Ev.pos (by omega) (Ev.pos (by omega) ?_))))
          refine i_l0 most dims data T E hx (by omega) (by omega) hTE T 0 [] [] _ (by omega) (by omega) rfl rfl (by simp) (fun j hj => ?_)
          rw [rd_at (by simp; omega), List.getElem_replicate]
          rfl
    · exact ⟨[], [], Ev.b rfl (Ev.b rfl (Ev.bind ts (Ev.pos rfl (Ev.neg hl (s0 _ _))))), Ev.bind ti (Ev.pos rfl (Ev.neg hl i0)), by simp, by simp⟩
theorem FnExactRoute (dims data : List Int) (most : Int) {p q : Int → Prop} (hg : (dims.length ≤ maxLen ∧ ∀ y ∈ dims, p y) ∧ (data.length ≤ maxLen ∧ ∀ y ∈ data, q y)) : ∃ k, laws_FnExactRoute.f k dims data most = some true := by
  have m1 : dims.length ≤ 9223372036854775807 := hg.1.1
  have m2 : data.length ≤ 9223372036854775807 := hg.2.1
  apply Ev.rounds
  unfold laws_FnExactRoute.f
  obtain ⟨q, eq, hq⟩ := szTensor_f dims data m1 m2
  refine Ev.b eq ?_
  rcases hq with hq | ⟨hq, h1, h2⟩
  · exact Ev.pos hq (Ev.some rfl)
  refine Ev.neg (by omega) ?_
  have t := toTensor_ev dims data h1 h2
  obtain ⟨a, b, es, ei, ha, hb⟩ := route_both dims data most h1 h2
  have ea := eqIntS_ev a (by omega)
  have eb := eqIntS_ev b (by omega)
  have ma := mark_ev a 1 (by omega) (by omega)
  have mb := mark_ev b (1 + (a.length : Int)) (by omega) (by omega)
  have ga := held_ev a.length 1 (by omega) (by omega)
  have gb := held_ev b.length (1 + (a.length : Int)) (by omega) (by omega)
  refine Ev.bind t (Ev.bind es (Ev.bind t (Ev.bind ei (Ev.bind ea (Ev.pos rfl (Ev.bind eb (Ev.succ ?_)))))))
  simp only [laws_FnExactRoute.j0]
  refine Ev.neg (by simp) (Ev.bind t (Ev.bind (eqTensor_ev dims data h1 h2) (Ev.pos rfl (Ev.bind (markTensor_ev dims data h1 h2) (Ev.neg (by simp; omega) (Ev.bind ea (Ev.pos rfl (Ev.bind eb (Ev.succ ?_)))))))))
  simp only [laws_FnExactRoute.j1]
  refine Ev.neg (by simp) (Ev.bind ma (Ev.bind mb (Ev.bind ga (Ev.neg (by omega) (Ev.bind gb (Ev.neg (by omega) (Ev.pos rfl (Ev.bind t (Ev.bind ei (Ev.bind ea (Ev.pos rfl (Ev.bind eb (Ev.succ ?_)))))))))))))
  simp only [laws_FnExactRoute.j2]
  exact Ev.neg (by simp) (Ev.bind ga (Ev.neg (by omega) (Ev.bind gb (Ev.neg (by omega) (Ev.pos rfl (Ev.some rfl))))))
end Go.Proofs.Ytpoblnigmfbnfab.PureFnExactRoute
