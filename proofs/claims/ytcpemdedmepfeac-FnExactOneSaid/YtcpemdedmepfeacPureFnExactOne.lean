/- Done to each number of a tensor, the program's own answer is the reference's. -/
import Derived.Test.YtcpemdedmepfeacPFnExactOnex
import Derived.Test.YtcpemdedmepfeacBase
import Derived.Test.YtcpemdedmepfeacVM
namespace Go.Proofs.Ytcpemdedmepfeac.PureFnExactOne
set_option linter.unusedVariables false
set_option linter.unusedSimpArgs false
open Go.RowKit Go.Proofs.Ytcpemdedmepfeac.PFnExactOne Go.Proofs.YtcpemdedmepfeacW.PrintWords Go.Proofs.YtcpemdedmepfeacW.PrintLast Go.Proofs.YtcpemdedmepfeacW.PrintMore Go.Proofs.Ytcpemdedmepfeac.Base Go.Proofs.Ytcpemdedmepfeac.VM
/-! ### lists of whole numbers taken over and held against each other -/
theorem toIntS_l (l : List Int) (hn : l.length ≤ 9223372036854775807) : ∀ (d i : Nat), l.length - i = d → i ≤ l.length → Ev (fun k => laws_toIntS.l0 k l (l.take i ++ List.replicate (l.length - i) 0) (i : Int)) l := by
  intro d
  induction d with
  | zero =>
    intro i hd hi
    refine Ev.succ ?_
    simp only [laws_toIntS.l0]
    refine Ev.neg (by omega) (Ev.some ?_)
    rw [hd, List.take_of_length_le (by omega)]
    simp
  | succ d ih =>
    intro i hd hi
    refine Ev.succ ?_
    simp only [laws_toIntS.l0]
    have hlt : i < l.length := by omega
    refine Ev.pos (by omega) (Ev.pos (by omega) (Ev.pos (by simp; omega) ?_))
    rw [rd_at hlt, up i hlt hn, Int.toNat_natCast, set_copy hlt]
    exact ih (i + 1) (by omega) (by omega)
theorem toIntS_ev (l : List Int) (h : l.length ≤ 35184372088832) : Ev (fun k => laws_toIntS.f k l) l := by
  unfold laws_toIntS.f
  refine Ev.pos (by omega) (Ev.pos (by omega) ?_)
  have := toIntS_l l (by omega) l.length 0 (by omega) (by omega)
  simpa using this
theorem eqIntS_l (l : List Int) (hn : l.length ≤ 9223372036854775807) : ∀ (d i : Nat), l.length - i = d → i ≤ l.length → Ev (fun k => laws_eqIntS.l0 k l l (i : Int)) true := by
  intro d
  induction d with
  | zero =>
    intro i hd hi
    refine Ev.succ ?_
    simp only [laws_eqIntS.l0]
    exact Ev.neg (by omega) (Ev.some rfl)
  | succ d ih =>
    intro i hd hi
    refine Ev.succ ?_
    simp only [laws_eqIntS.l0]
    have hlt : i < l.length := by omega
    refine Ev.pos (by omega) (Ev.pos (by omega) (Ev.pos (by omega) (Ev.pos (by trivial) ?_)))
    rw [up i hlt hn]
    exact ih (i + 1) (by omega) (by omega)
theorem eqIntS_ev (l : List Int) (h : l.length ≤ 9223372036854775807) : Ev (fun k => laws_eqIntS.f k l l) true := by
  unfold laws_eqIntS.f
  exact Ev.pos rfl (eqIntS_l l (by omega) l.length 0 (by omega) (by omega))
/-! ### lengths -/
theorem size_l (l : List Int) (hn : l.length ≤ 9223372036854775807) : ∀ (d i : Nat) (n : Int), l.length - i = d → i ≤ l.length → 1 ≤ n → n ≤ 4096 → Ev (fun k => spec_l3Size.l0 k l n (i : Int)) (if runOk n (l.drop i) = true then n * prod (l.drop i) else 0) := by
  intro d
  induction d with
  | zero =>
    intro i n hd hi h0 h1
    refine Ev.succ ?_
    simp only [spec_l3Size.l0]
    refine Ev.neg (by omega) (Ev.some ?_)
    rw [List.drop_eq_nil_of_le (by omega)]
    simp [runOk, prod]
  | succ d ih =>
    intro i n hd hi h0 h1
    have hlt : i < l.length := by omega
    refine Ev.succ ?_
    simp only [spec_l3Size.l0]
    refine Ev.pos (by omega) (Ev.pos (by omega) ?_)
    rw [rd_at hlt, drop_at hlt]
    refine Ev.ite (fun h => Ev.succ ?_) (fun h => Ev.succ ?_)
    · simp only [spec_l3Size.j1]
      refine Ev.pos (by trivial) (Ev.some ?_)
      simp [runOk, h]
    · simp only [spec_l3Size.j1]
      by_cases h2 : 4096 < l[i]
      · refine Ev.pos (by simpa using h2) (Ev.some ?_)
        simp [runOk, h, h2]
      · have p1 : n * l[i] ≤ 4096 * 4096 := Int.mul_le_mul h1 (by omega) (by omega) (by omega)
        have p0 : 1 * 1 ≤ n * l[i] := Int.mul_le_mul h0 (by omega) (by omega) (by omega)
        refine Ev.neg (by simpa using h2) (Ev.pos (by omega) (Ev.pos (by omega) ?_))
        rw [rd_at hlt, wrap_id (by omega : -9223372036854775808 ≤ n * l[i]) (by omega), up i hlt hn]
        refine Ev.ite (fun h3 => Ev.some ?_) (fun h3 => ?_)
        · simp [runOk, h, h2, show 4096 < n * l[i] from h3]
        · have e : runOk n (l[i] :: l.drop (i + 1)) = runOk (n * l[i]) (l.drop (i + 1)) := by
            simp [runOk, h, h2, show ¬ 4096 < n * l[i] from h3]
          rw [e]
          simp only [prod]
          rw [← Int.mul_assoc]
          exact ih (i + 1) _ (by omega) (by omega) (by omega) (by omega)
theorem size_ev (l : List Int) (hn : l.length ≤ 9223372036854775807) : Ev (fun k => spec_l3Size.f k l) (if runOk 1 l = true then prod l else 0) := by
  have := size_l l hn l.length 0 1 (by omega) (by omega) (by omega) (by omega)
  rw [Int.one_mul] at this
  exact this
/-- Lengths that can be. -/
def dimsB (l : List Int) : Bool := decide (l.length ≤ 6) && runOk 1 l
theorem sdims_ev (l : List Int) (hn : l.length ≤ 9223372036854775807) : Ev (fun k => spec_DimsOk.f k l) (dimsB l) := by
  unfold spec_DimsOk.f dimsB
  refine Ev.ite (fun h => Ev.bind (size_ev l hn) (Ev.some ?_)) (fun h => Ev.some ?_)
  · rw [show decide (l.length ≤ 6) = true from decide_eq_true (by omega), Bool.true_and]
    cases hr : runOk 1 l with
    | true =>
      have := prod_pos hr
      simp
      omega
    | false => simp
  · rw [show decide (l.length ≤ 6) = false from decide_eq_false (by omega)]
    rfl
theorem idims_l (l : List Int) (hn : l.length ≤ 9223372036854775807) : ∀ (d i : Nat) (n : Int), l.length - i = d → i ≤ l.length → 1 ≤ n → n ≤ 4096 → Ev (fun k => impl_DimsOk.l0 k l n l (l.length : Int) (i : Int)) (decide (l.length ≤ 6) && runOk n (l.drop i)) := by
  intro d
  induction d with
  | zero =>
    intro i n hd hi h0 h1
    refine Ev.succ ?_
    simp only [impl_DimsOk.l0]
    refine Ev.neg (by omega) (Ev.some ?_)
    rw [List.drop_eq_nil_of_le (by omega)]
    simp only [runOk, Bool.and_true]
    exact decide_eq_decide.2 (by omega)
  | succ d ih =>
    intro i n hd hi h0 h1
    have hlt : i < l.length := by omega
    refine Ev.succ ?_
    simp only [impl_DimsOk.l0]
    refine Ev.pos (by omega) (Ev.pos (by omega) (Ev.pos (by omega) ?_))
    rw [rd_at hlt, drop_at hlt]
    refine Ev.ite (fun h => Ev.succ ?_) (fun h => Ev.succ ?_)
    · simp only [impl_DimsOk.j1]
      refine Ev.pos (by trivial) (Ev.some ?_)
      simp [runOk, h]
    · simp only [impl_DimsOk.j1]
      by_cases h2 : 4096 < l[i]
      · refine Ev.pos (by simpa using h2) (Ev.some ?_)
        simp [runOk, h, h2]
      · have p1 : n * l[i] ≤ 4096 * 4096 := Int.mul_le_mul h1 (by omega) (by omega) (by omega)
        have p0 : 1 * 1 ≤ n * l[i] := Int.mul_le_mul h0 (by omega) (by omega) (by omega)
        refine Ev.neg (by simpa using h2) ?_
        rw [wrap_id (by omega : -9223372036854775808 ≤ n * l[i]) (by omega), up i hlt hn]
        refine Ev.ite (fun h3 => Ev.some ?_) (fun h3 => ?_)
        · simp [runOk, h, h2, show 4096 < n * l[i] from h3]
        · have e : runOk n (l[i] :: l.drop (i + 1)) = runOk (n * l[i]) (l.drop (i + 1)) := by
            simp [runOk, h, h2, show ¬ 4096 < n * l[i] from h3]
          rw [e]
          exact ih (i + 1) _ (by omega) (by omega) (by omega) (by omega)
theorem idims_ev (l : List Int) (hn : l.length ≤ 9223372036854775807) : Ev (fun k => impl_DimsOk.f k l) (dimsB l) := idims_l l hn l.length 0 1 (by omega) (by omega) (by omega) (by omega)
theorem product_l (l : List Int) (hn : l.length ≤ 9223372036854775807) : ∀ (d i : Nat) (n : Int), l.length - i = d → i ≤ l.length → 1 ≤ n → n ≤ 4096 → runOk n (l.drop i) = true → Ev (fun k => impl_product.l0 k n l (l.length : Int) (i : Int)) (n * prod (l.drop i)) := by
  intro d
  induction d with
  | zero =>
    intro i n hd hi h0 h1 hr
    refine Ev.succ ?_
    simp only [impl_product.l0]
    refine Ev.neg (by omega) (Ev.some ?_)
    rw [List.drop_eq_nil_of_le (by omega)]
    simp [prod]
  | succ d ih =>
    intro i n hd hi h0 h1 hr
    have hlt : i < l.length := by omega
    rw [drop_at hlt] at hr ⊢
    obtain ⟨h2, h3, h4, h5⟩ := runOk_cons hr
    have p0 : 1 * 1 ≤ n * l[i] := Int.mul_le_mul h0 h2 (by omega) (by omega)
    refine Ev.succ ?_
    simp only [impl_product.l0]
    refine Ev.pos (by omega) (Ev.pos (by omega) (Ev.pos (by omega) ?_))
    rw [rd_at hlt, up i hlt hn, wrap_id (by omega : -9223372036854775808 ≤ n * l[i]) (by omega)]
    simp only [prod]
    rw [← Int.mul_assoc]
    exact ih (i + 1) _ (by omega) (by omega) (by omega) h4 h5
theorem product_ev (l : List Int) (hn : l.length ≤ 9223372036854775807) (hr : runOk 1 l = true) : Ev (fun k => impl_product.f k l) (prod l) := by
  have := product_l l hn l.length 0 1 (by omega) (by omega) (by omega) (by omega) hr
  rw [Int.one_mul] at this
  exact this
/-! ### marks: written into what was made, and found there again -/
def ups (a : Int) : Nat → List Int
  | 0 => []
  | n + 1 => a :: ups (a + 1) n
theorem ups_len : ∀ (n : Nat) (a : Int), (ups a n).length = n
  | 0, _ => rfl
  | n + 1, a => by simp [ups, ups_len n]
theorem ups_at : ∀ (n : Nat) (a : Int) (i : Nat) (h : i < (ups a n).length), (ups a n)[i] = a + i
  | 0, _, _, h => by simp [ups] at h
  | n + 1, a, 0, _ => by simp [ups]
  | n + 1, a, i + 1, h => by
    simp only [ups, List.getElem_cons_succ]
    rw [ups_at n (a + 1) i (by simpa [ups] using h)]
    omega
theorem set_over {β : Type} {L l : List β} {i : Nat} (h : i < L.length) (hl : l.length = L.length) : (L.take i ++ l.drop i).set i L[i] = L.take (i + 1) ++ l.drop (i + 1) := by
  have h' : i < l.length := by omega
  rw [List.drop_eq_getElem_cons h', List.set_append_right _ _ (by simp; omega), List.length_take, Nat.min_eq_left (by omega), Nat.sub_self, List.set_cons_zero, List.take_succ_eq_append_getElem h, List.append_assoc]
  rfl
theorem mark_l (l : List Int) (a : Int) (h0 : 0 ≤ a) (h1 : a + l.length ≤ 4611686018427387904) : ∀ (d i : Nat), l.length - i = d → i ≤ l.length → Ev (fun k => laws_markIntS.l0 k ((ups a l.length).take i ++ l.drop i) (a + i) (i : Int)) (a + l.length, ups a l.length) := by
  intro d
  induction d with
  | zero =>
    intro i hd hi
    refine Ev.succ ?_
    simp only [laws_markIntS.l0]
    have e : (ups a l.length).take i ++ l.drop i = ups a l.length := by
      rw [List.drop_eq_nil_of_le (by omega), List.append_nil, List.take_of_length_le (by rw [ups_len]; omega)]
    rw [e]
    exact Ev.neg (by rw [ups_len]; omega) (Ev.some (by rw [show i = l.length by omega]))
  | succ d ih =>
    intro i hd hi
    refine Ev.succ ?_
    simp only [laws_markIntS.l0]
    have hu : i < (ups a l.length).length := by rw [ups_len]; omega
    refine Ev.pos (by simp [ups_len]; omega) (Ev.pos (by omega) ?_)
    have e := set_over hu (l := l) (by rw [ups_len])
    rw [ups_at l.length a i hu] at e
    rw [Int.toNat_natCast, e, up i (by omega : i < l.length) (by omega), wrap_id (by omega) (by omega), show a + (i : Int) + 1 = a + ((i + 1 : Nat) : Int) by omega]
    exact ih (i + 1) (by omega) (by omega)
theorem mark_ev (l : List Int) (a : Int) (h0 : 0 ≤ a) (h1 : a + l.length ≤ 4611686018427387904) : Ev (fun k => laws_markIntS.f k l a) (a + l.length, ups a l.length) := by
  unfold laws_markIntS.f
  have := mark_l l a h0 h1 l.length 0 (by omega) (by omega)
  simpa using this
theorem held_l (n : Nat) (a : Int) (h0 : 0 ≤ a) (h1 : a + n ≤ 4611686018427387904) : ∀ (d i : Nat), n - i = d → i ≤ n → Ev (fun k => laws_heldIntS.l0 k (ups a n) (a + i) (i : Int)) (a + n) := by
  intro d
  induction d with
  | zero =>
    intro i hd hi
    refine Ev.succ ?_
    simp only [laws_heldIntS.l0]
    exact Ev.neg (by rw [ups_len]; omega) (Ev.some (by rw [show i = n by omega]))
  | succ d ih =>
    intro i hd hi
    refine Ev.succ ?_
    simp only [laws_heldIntS.l0]
    have hu : i < (ups a n).length := by rw [ups_len]; omega
    refine Ev.pos (by omega) (Ev.pos (by omega) ?_)
    rw [rd_at hu, ups_at n a i hu, up i (by omega : i < n) (by omega), wrap_id (by omega) (by omega), show a + (i : Int) + 1 = a + ((i + 1 : Nat) : Int) by omega]
    exact Ev.pos rfl (ih (i + 1) (by omega) (by omega))
theorem held_ev (n : Nat) (a : Int) (h0 : 0 ≤ a) (h1 : a + n ≤ 4611686018427387904) : Ev (fun k => laws_heldIntS.f k (ups a n) a) (a + n) := by
  unfold laws_heldIntS.f
  have := held_l n a h0 h1 n 0 (by omega) (by omega)
  simpa using this
/-! ### tensors that can be -/
def numB (x : Int) : Bool := decide (0 ≤ x) && decide (x < 2147483647)
def tensB (dims data : List Int) : Bool := dimsB dims && (decide ((data.length : Int) = prod dims) && data.all numB)
theorem stens_l (dims l : List Int) (hn : l.length ≤ 9223372036854775807) : ∀ (d i : Nat), l.length - i = d → i ≤ l.length → Ev (fun k => spec_TensorOk.l0 k (i : Int) dims l) ((l.drop i).all numB) := by
  intro d
  induction d with
  | zero =>
    intro i hd hi
    refine Ev.succ ?_
    simp only [spec_TensorOk.l0]
    refine Ev.neg (by omega) (Ev.some ?_)
    rw [List.drop_eq_nil_of_le (by omega)]
    rfl
  | succ d ih =>
    intro i hd hi
    have hlt : i < l.length := by omega
    refine Ev.succ ?_
    simp only [spec_TensorOk.l0]
    refine Ev.pos (by omega) (Ev.pos (by omega) ?_)
    rw [rd_at hlt, drop_at hlt, List.all_cons, up i hlt hn]
    refine Ev.ite (fun h => Ev.some ?_) (fun h => Ev.ite (fun h2 => Ev.some ?_) (fun h2 => ?_))
    · simp [numB, show ¬ (0 ≤ l[i]) by omega]
    · simp [numB, show ¬ (l[i] < 2147483647) by omega]
    · rw [show numB l[i] = true by simp [numB]; omega, Bool.true_and]
      exact ih (i + 1) (by omega) (by omega)
theorem stens_ev (dims l : List Int) (hd : dims.length ≤ 9223372036854775807) (hn : l.length ≤ 9223372036854775807) : Ev (fun k => spec_TensorOk.f k dims l) (tensB dims l) := by
  unfold spec_TensorOk.f tensB
  refine Ev.bind (sdims_ev dims hd) ?_
  cases hb : dimsB dims with
  | false =>
    refine Ev.neg (by simp) (Ev.succ ?_)
    simp only [spec_TensorOk.j0]
    exact Ev.pos (by trivial) (Ev.some rfl)
  | true =>
    have hb' := hb
    unfold dimsB at hb'
    simp only [Bool.and_eq_true, decide_eq_true_eq] at hb'
    have e := size_ev dims hd
    rw [if_pos hb'.2] at e
    refine Ev.pos rfl (Ev.bind e (Ev.succ ?_))
    simp only [spec_TensorOk.j0, Bool.true_and]
    by_cases h : (l.length : Int) = prod dims
    · refine Ev.neg (by simpa using h) ?_
      rw [decide_eq_true h, Bool.true_and]
      exact stens_l dims l hn l.length 0 (by omega) (by omega)
    · refine Ev.pos (by simpa using h) (Ev.some ?_)
      rw [decide_eq_false h]
      rfl
theorem isnum_f (x : Int) : impl_isNum.f x = some (numB x) := by
  unfold impl_isNum.f numB
  split
  · next h => rw [decide_eq_true (show 0 ≤ x by omega), Bool.true_and]
  · next h => rw [decide_eq_false (show ¬ 0 ≤ x by omega), Bool.false_and]
theorem nums_l (l : List Int) (hn : l.length ≤ 9223372036854775807) : ∀ (d i : Nat), l.length - i = d → i ≤ l.length → Ev (fun k => impl_allNums.l0 k l (l.length : Int) (i : Int)) ((l.drop i).all numB) := by
  intro d
  induction d with
  | zero =>
    intro i hd hi
    refine Ev.succ ?_
    simp only [impl_allNums.l0]
    refine Ev.neg (by omega) (Ev.some ?_)
    rw [List.drop_eq_nil_of_le (by omega)]
    rfl
  | succ d ih =>
    intro i hd hi
    have hlt : i < l.length := by omega
    refine Ev.succ ?_
    simp only [impl_allNums.l0]
    refine Ev.pos (by omega) (Ev.pos (by omega) (Ev.pos (by omega) ?_))
    rw [rd_at hlt, drop_at hlt, List.all_cons, up i hlt hn]
    refine Ev.b (isnum_f _) ?_
    cases numB l[i] with
    | false => exact Ev.neg (by simp) (Ev.some rfl)
    | true => exact Ev.pos rfl (ih (i + 1) (by omega) (by omega))
theorem nums_ev (l : List Int) (hn : l.length ≤ 9223372036854775807) : Ev (fun k => impl_allNums.f k l) (l.all numB) := by
  unfold impl_allNums.f
  exact nums_l l hn l.length 0 (by omega) (by omega)
theorem itens_ev (dims l : List Int) (hd : dims.length ≤ 9223372036854775807) (hn : l.length ≤ 9223372036854775807) : Ev (fun k => impl_TensorOk.f k dims l) (tensB dims l) := by
  unfold impl_TensorOk.f tensB
  refine Ev.bind (idims_ev dims hd) ?_
  cases hb : dimsB dims with
  | false => exact Ev.neg (by simp) (Ev.some rfl)
  | true =>
    have hb' := hb
    unfold dimsB at hb'
    simp only [Bool.and_eq_true, decide_eq_true_eq] at hb'
    refine Ev.pos rfl (Ev.bind (product_ev dims hd hb'.2) ?_)
    rw [Bool.true_and]
    refine Ev.ite (fun h => ?_) (fun h => ?_)
    · rw [decide_eq_true h, Bool.true_and]
      exact Ev.bind (nums_ev l hn) (Ev.some rfl)
    · rw [decide_eq_false h]
      exact Ev.some rfl
theorem toTensor_ev (a b : List Int) (ha : a.length ≤ 1048576) (hb : b.length ≤ 1048576) : Ev (fun k => laws_toTensor.f k a b) (a, b) := by
  unfold laws_toTensor.f
  exact Ev.bind (toIntS_ev a (by omega)) (Ev.bind (toIntS_ev b (by omega)) (Ev.some rfl))
theorem eqTensor_ev (a b : List Int) (ha : a.length ≤ 1048576) (hb : b.length ≤ 1048576) : Ev (fun k => laws_eqTensor.f k a b a b) true := by
  unfold laws_eqTensor.f
  exact Ev.bind (eqIntS_ev a (by omega)) (Ev.pos rfl (Ev.bind (eqIntS_ev b (by omega)) (Ev.pos rfl (Ev.some rfl))))
theorem markTensor_ev (a b : List Int) (ha : a.length ≤ 1048576) (hb : b.length ≤ 1048576) : Ev (fun k => laws_markTensor.f k a b 1) (1 + (a.length : Int) + b.length, ups 1 a.length, ups (1 + (a.length : Int)) b.length) := by
  unfold laws_markTensor.f
  exact Ev.bind (mark_ev a 1 (by omega) (by omega)) (Ev.bind (mark_ev b _ (by omega) (by omega)) (Ev.some rfl))
theorem szTensor_f (a b : List Int) (ha : a.length ≤ 9223372036854775807) (hb : b.length ≤ 9223372036854775807) : ∃ q, laws_szTensor.f a b 1048576 = some q ∧ (q < 0 ∨ (0 ≤ q ∧ a.length ≤ 1048576 ∧ b.length ≤ 1048576)) := by
  unfold laws_szTensor.f laws_szIntS.f
  rw [wrap_id (by omega) (by omega)]
  by_cases h : (1048576 : Int) - (a.length : Int) < 0
  · rw [if_pos h, Option.bind_some, if_pos (by omega)]
    exact ⟨_, rfl, .inl (by omega)⟩
  · rw [if_neg h, Option.bind_some, if_neg h, wrap_id (by omega) (by omega)]
    by_cases h2 : (1048576 : Int) - (a.length : Int) - (b.length : Int) < 0
    · rw [if_pos h2, Option.bind_some, if_pos (by omega)]
      exact ⟨_, rfl, .inl (by omega)⟩
    · rw [if_neg h2, Option.bind_some, if_neg h2]
      exact ⟨_, rfl, .inr ⟨by omega, by omega, by omega⟩⟩
theorem clone_f (l : List Int) (h : l.length < 17592186044416) : slices_Clone_int_int.f l = some l := by
  unfold slices_Clone_int_int.f
  rw [if_pos h]
theorem l3Ints_f (l : List Int) (h : l.length < 17592186044416) : spec_l3Ints.f l = some l := by
  unfold spec_l3Ints.f
  simp only [Option.bind_some, List.nil_append]
  rw [if_pos (by simp; omega)]
/-! ### numbers modulo the prime, by both -/
def md (x : Int) : Int := x % 2147483647
theorem md_lt (x : Int) : 0 ≤ md x ∧ md x < 2147483647 := by
  unfold md
  omega
theorem md_id {x : Int} (h0 : 0 ≤ x) (h1 : x < 2147483647) : md x = x := by
  unfold md
  omega
theorem tmod_md (x : Int) : Int.tmod x 2147483647 = if x < 0 ∧ md x ≠ 0 then md x - 2147483647 else md x := by
  unfold md
  by_cases h : 0 ≤ x
  · rw [Int.tmod_eq_emod_of_nonneg h, if_neg (by omega)]
  · obtain ⟨y, rfl⟩ : ∃ y, x = -y := ⟨-x, by omega⟩
    rw [Int.neg_tmod, Int.tmod_eq_emod_of_nonneg (by omega)]
    split <;> omega
theorem smod_f (x : Int) : spec_Mod.f x = some (md x) := by
  have l := md_lt x
  unfold spec_Mod.f
  rw [tmod_md]
  split
  · rw [if_pos (by omega), wrap_id (by omega) (by omega)]
    exact congrArg some (by omega)
  · rw [if_neg (by omega)]
theorem imod_f (x : Int) : impl_Mod.f x = some (md x) := by
  have l := md_lt x
  unfold impl_Mod.f
  rw [tmod_md]
  split
  · rw [if_pos (by omega), wrap_id (by omega) (by omega)]
    exact congrArg some (by omega)
  · rw [if_neg (by omega)]
theorem md_md (x : Int) : md (md x) = md x := by
  unfold md
  omega
theorem md_add (x y : Int) : md (md x + md y) = md (x + y) := by
  unfold md
  omega
theorem md_mul (x y : Int) : md (md x * md y) = md (x * y) := by
  unfold md
  rw [← Int.mul_emod]
theorem mul_lt {x y : Int} (hx : 0 ≤ x ∧ x < 2147483647) (hy : 0 ≤ y ∧ y < 2147483647) : 0 ≤ x * y ∧ x * y < 4611686014132420609 := by
  have a : 0 ≤ x * y := Int.mul_nonneg hx.1 hy.1
  have b : x * y ≤ 2147483646 * 2147483646 := Int.mul_le_mul (by omega) (by omega) hy.1 (by omega)
  omega
theorem sminus_f (x y : Int) : spec_Minus.f x y = some (md (x - y)) := by
  have a := md_lt x
  have b := md_lt y
  unfold spec_Minus.f
  rw [smod_f, smod_f, Option.bind_some, Option.bind_some, wrap_id (by omega) (by omega), smod_f, Option.bind_some]
  unfold md
  exact congrArg some (by omega)
theorem stimes_f (x y : Int) : spec_Times.f x y = some (md (x * y)) := by
  have a := mul_lt (md_lt x) (md_lt y)
  unfold spec_Times.f
  rw [smod_f, smod_f, Option.bind_some, Option.bind_some, wrap_id (by omega) (by omega), smod_f, Option.bind_some, md_mul]
theorem ires_f (x : Int) : impl_res.f x = some (md x) := by
  unfold impl_res.f
  rw [imod_f, Option.bind_some]
theorem rplus_f {x y : Int} (hx : 0 ≤ x ∧ x < 2147483647) (hy : 0 ≤ y ∧ y < 2147483647) : impl_residue_plus.f x y = some (md (x + y)) := by
  unfold impl_residue_plus.f
  rw [wrap_id (by omega) (by omega)]
  split
  · rw [wrap_id (by omega) (by omega)]
    unfold md
    exact congrArg some (by omega)
  · unfold md
    exact congrArg some (by omega)
theorem rtimes_f {x y : Int} (hx : 0 ≤ x ∧ x < 2147483647) (hy : 0 ≤ y ∧ y < 2147483647) : impl_residue_times.f x y = some (md (x * y)) := by
  have a := mul_lt hx hy
  unfold impl_residue_times.f
  rw [wrap_id (by omega) (by omega), Int.tmod_eq_emod_of_nonneg a.1]
  rfl
theorem iminus_f (x y : Int) : impl_Minus.f x y = some (md (x - y)) := by
  have a := md_lt x
  have b := md_lt y
  unfold impl_Minus.f
  rw [ires_f, imod_f, Option.bind_some, Option.bind_some, wrap_id (by omega) (by omega), ires_f, Option.bind_some, rplus_f (md_lt x) (md_lt _), Option.bind_some]
  unfold md
  exact congrArg some (by omega)
/-! ### powers -/
def pw (a : Int) : Nat → Int
  | 0 => 1
  | n + 1 => pw a n * a % 2147483647
theorem pw_lt (a : Int) (n : Nat) : 0 ≤ pw a n ∧ pw a n < 2147483647 := by
  cases n with
  | zero => simp [pw]
  | succ n => simp only [pw]; omega
theorem mm1 (x y : Int) : x % 2147483647 * y % 2147483647 = x * y % 2147483647 := by
  rw [Int.mul_emod, Int.emod_emod_of_dvd _ (Int.dvd_refl _), ← Int.mul_emod]
theorem mm2 (x y : Int) : x * (y % 2147483647) % 2147483647 = x * y % 2147483647 := by
  rw [Int.mul_comm, mm1, Int.mul_comm]
theorem pw_add (a : Int) (m n : Nat) : pw a (m + n) = pw a m * pw a n % 2147483647 := by
  induction n with
  | zero =>
    have := pw_lt a m
    simp only [Nat.add_zero, pw, Int.mul_one]
    omega
  | succ n ih =>
    rw [← Nat.add_assoc]
    simp only [pw]
    rw [ih, mm1, mm2, Int.mul_assoc]
theorem pw_sq (a : Int) (n : Nat) : pw (a * a % 2147483647) n = pw a (2 * n) := by
  induction n with
  | zero => rfl
  | succ n ih =>
    rw [show 2 * (n + 1) = 2 * n + 1 + 1 by omega]
    simp only [pw]
    rw [ih, mm2, mm1, Int.mul_assoc]
theorem power_l : ∀ (f n : Nat) (r out : Int), n ≤ f → n ≤ 4611686018427387904 → 0 ≤ r ∧ r < 2147483647 → 0 ≤ out ∧ out < 2147483647 → Ev (fun k => impl_residue_power.l0 k r (n : Int) out) (out * pw r n % 2147483647) := by
  intro f
  induction f with
  | zero =>
    intro n r out h1 h2 hr ho
    obtain rfl : n = 0 := by omega
    refine Ev.succ ?_
    simp only [impl_residue_power.l0]
    refine Ev.neg (by omega) (Ev.some ?_)
    simp only [pw, Int.mul_one]
    omega
  | succ f ih =>
    intro n r out h1 h2 hr ho
    refine Ev.succ ?_
    simp only [impl_residue_power.l0]
    by_cases h0 : n = 0
    · subst h0
      refine Ev.neg (by omega) (Ev.some ?_)
      simp only [pw, Int.mul_one]
      omega
    · refine Ev.pos (by omega) ?_
      have e2 : ((n : Int) / 2) = ((n / 2 : Nat) : Int) := by omega
      rw [and_1, e2]
      have rr := rtimes_f hr hr
      have er : md (r * r) = r * r % 2147483647 := rfl
      refine Ev.ite (fun hodd => ?_) (fun heven => ?_)
      · refine Ev.b (rtimes_f ho hr) (Ev.b rr ?_)
        have := ih (n / 2) (md (r * r)) (md (out * r)) (by omega) (by omega) (md_lt _) (md_lt _)
        rw [er, pw_sq] at this
        rw [er]
        have e3 : n = 1 + 2 * (n / 2) := by omega
        have e4 : md (out * r) * pw r (2 * (n / 2)) % 2147483647 = out * pw r n % 2147483647 := by
          conv => rhs; rw [e3, pw_add, mm2]
          unfold md
          rw [mm1]
          simp only [pw, Int.one_mul]
          rw [← Int.mul_assoc, Int.emod_eq_of_lt hr.1 hr.2]
        rw [e4] at this
        exact this
      · refine Ev.b rr ?_
        have := ih (n / 2) (md (r * r)) out (by omega) (by omega) (md_lt _) ho
        rw [er, pw_sq] at this
        rw [er]
        rw [show 2 * (n / 2) = n by omega] at this
        exact this
theorem raise_l (a : Int) (ha : 0 ≤ a ∧ a < 2147483647) : ∀ (f n : Nat), n ≤ f → n ≤ 4611686018427387904 → Ev (fun k => spec_l1Raise.f k a (n : Int)) (pw a n) := by
  intro f
  induction f with
  | zero =>
    intro n h1 h2
    obtain rfl : n = 0 := by omega
    refine Ev.succ ?_
    simp only [spec_l1Raise.f]
    exact Ev.pos (by omega) (Ev.some rfl)
  | succ f ih =>
    intro n h1 h2
    refine Ev.succ ?_
    simp only [spec_l1Raise.f]
    by_cases h0 : n = 0
    · subst h0
      exact Ev.pos (by omega) (Ev.some rfl)
    · refine Ev.neg (by omega) ?_
      rw [Int.tdiv_eq_ediv_of_nonneg (by omega), Int.tmod_eq_emod_of_nonneg (by omega), wrap_id (by omega) (by omega), show ((n : Int) / 2) = ((n / 2 : Nat) : Int) by omega]
      refine Ev.bind (ih (n / 2) (by omega) (by omega)) (Ev.b (stimes_f _ _) ?_)
      have e : md (pw a (n / 2) * pw a (n / 2)) = pw a (n / 2 + n / 2) := (pw_add a _ _).symm
      rw [e]
      refine Ev.ite (fun hodd => Ev.b (stimes_f _ _) (Ev.some ?_)) (fun heven => Ev.some ?_)
      · have e3 : n = (n / 2 + n / 2) + 1 := by omega
        conv => rhs; rw [e3]
        rfl
      · rw [show n / 2 + n / 2 = n by omega]
def inv (x : Int) : Int := pw (md x) 2147483645
theorem inv_lt (x : Int) : 0 ≤ inv x ∧ inv x < 2147483647 := pw_lt _ _
theorem sinv_ev (x : Int) : Ev (fun k => spec_Inverse.f k x) (inv x) := by
  unfold spec_Inverse.f
  exact Ev.b (smod_f x) (Ev.bind (raise_l (md x) (md_lt x) 2147483645 2147483645 (Nat.le_refl _) (by omega)) (Ev.some rfl))
theorem iinv_ev (x : Int) : Ev (fun k => impl_Inverse.f k x) (inv x) := by
  unfold impl_Inverse.f impl_residue_power.f
  refine Ev.b (ires_f x) (Ev.bind (power_l 2147483645 2147483645 (md x) 1 (Nat.le_refl _) (by omega) (md_lt x) (by omega)) (Ev.some ?_))
  have := inv_lt x
  unfold inv at *
  rw [Int.one_mul]
  omega
/-! ### numbers as signed ones, by both -/
theorem signed_f (x : Int) : ∃ v, spec_Signed.f x = some v ∧ impl_Signed.f x = some v := by
  unfold spec_Signed.f impl_Signed.f spec_Mod.f impl_Mod.f
  split <;> simp only [Option.bind_some] <;> split <;> exact ⟨_, rfl, rfl⟩
def sg (x : Int) : Int := (spec_Signed.f x).getD 0
theorem sg_s (x : Int) : spec_Signed.f x = some (sg x) := by
  obtain ⟨v, h, _⟩ := signed_f x
  unfold sg
  rw [h]
  rfl
theorem sg_i (x : Int) : impl_Signed.f x = some (sg x) := by
  obtain ⟨v, h, h2⟩ := signed_f x
  unfold sg
  rw [h, h2]
  rfl
theorem elem_ev (a x : Int) (h1 : 1 ≤ a) (h4 : a ≤ 4) : ∃ v, Ev (fun k => spec_l4One.f k a x) v ∧ Ev (fun k => impl_One.F a k x) v := by
  unfold spec_l4One.f impl_One.F
  by_cases e1 : a = 1
  · refine ⟨md (0 - x), Ev.pos e1 (Ev.b (sminus_f 0 x) (Ev.some rfl)), Ev.pos e1 ?_⟩
    unfold impl_negOf.f
    exact Ev.b (iminus_f 0 x) (Ev.some rfl)
  by_cases e2 : a = 2
  · exact ⟨inv x, Ev.neg e1 (Ev.pos e2 (Ev.bind (sinv_ev x) (Ev.some rfl))), Ev.neg e1 (Ev.pos e2 (iinv_ev x))⟩
  by_cases e3 : a = 3
  · by_cases hs : sg x ≤ 0
    · refine ⟨0, Ev.neg e1 (Ev.neg e2 (Ev.b (sg_s x) (Ev.pos hs (Ev.some rfl)))), Ev.neg e1 (Ev.neg e2 (Ev.pos e3 ?_))⟩
      unfold impl_stepOf.f
      refine Ev.b (sg_i x) (Ev.b (a := 0) ?_ (Ev.some rfl))
      unfold impl_truth.f
      rw [if_neg (by simp; omega)]
    · refine ⟨1, Ev.neg e1 (Ev.neg e2 (Ev.b (sg_s x) (Ev.neg hs (Ev.pos e3 (Ev.some rfl))))), Ev.neg e1 (Ev.neg e2 (Ev.pos e3 ?_))⟩
      unfold impl_stepOf.f
      refine Ev.b (sg_i x) (Ev.b (a := 1) ?_ (Ev.some rfl))
      unfold impl_truth.f
      rw [if_pos (by simp; omega)]
  · by_cases hs : sg x ≤ 0
    · refine ⟨0, Ev.neg e1 (Ev.neg e2 (Ev.b (sg_s x) (Ev.pos hs (Ev.some rfl)))), Ev.neg e1 (Ev.neg e2 (Ev.neg e3 ?_))⟩
      unfold impl_reluOf.f
      exact Ev.b (sg_i x) (Ev.neg (by omega) (Ev.some rfl))
    · refine ⟨x, Ev.neg e1 (Ev.neg e2 (Ev.b (sg_s x) (Ev.neg hs (Ev.neg e3 (Ev.some rfl))))), Ev.neg e1 (Ev.neg e2 (Ev.neg e3 ?_))⟩
      unfold impl_reluOf.f
      exact Ev.b (sg_i x) (Ev.pos (by omega) (Ev.some rfl))
theorem elems (a : Int) (h1 : 1 ≤ a) (h4 : a ≤ 4) : ∃ g : Int → Int, ∀ x, Ev (fun k => spec_l4One.f k a x) (g x) ∧ Ev (fun k => impl_One.F a k x) (g x) :=
  ⟨fun x => Classical.choose (elem_ev a x h1 h4), fun x => Classical.choose_spec (elem_ev a x h1 h4)⟩
theorem sone_l (a : Int) (g : Int → Int) (hg : ∀ x, Ev (fun k => spec_l4One.f k a x) (g x)) (ds dt : List Int) (hn : dt.length ≤ 1048576) : ∀ (d i : Nat), dt.length - i = d → i ≤ dt.length → Ev (fun k => spec_One.l0 k a (i : Int) ds dt ds ((dt.map g).take i ++ List.replicate (dt.length - i) 0)) (ds, dt.map g) := by
  intro d
  induction d with
  | zero =>
    intro i hd hi
    refine Ev.succ ?_
    simp only [spec_One.l0]
    refine Ev.neg (by omega) (Ev.some ?_)
    rw [hd, List.take_of_length_le (by simp; omega)]
    simp
  | succ d ih =>
    intro i hd hi
    have hlt : i < dt.length := by omega
    refine Ev.succ ?_
    simp only [spec_One.l0]
    rw [rd_at hlt]
    refine Ev.pos (by omega) (Ev.pos (by omega) (Ev.bind (hg _) (Ev.pos (by simp; omega) ?_)))
    have hm : i < (dt.map g).length := by simpa using hlt
    have e := set_fill (L := dt.map g) (z := (0 : Int)) hm
    rw [List.length_map, List.getElem_map] at e
    rw [Int.toNat_natCast, e, up i hlt (by omega)]
    exact ih (i + 1) (by omega) (by omega)
theorem ione_l (F : Nat → Int → Option Int) (g : Int → Int) (hg : ∀ x, Ev (fun k => F k x) (g x)) (dt : List Int) (hn : dt.length ≤ 1048576) : ∀ (d i : Nat), dt.length - i = d → i ≤ dt.length → Ev (fun k => mapF F k dt ((dt.map g).take i ++ List.replicate (dt.length - i) 0) (i : Int)) (dt.map g) := by
  intro d
  induction d with
  | zero =>
    intro i hd hi
    refine Ev.succ ?_
    simp only [mapF]
    refine Ev.neg (by omega) (Ev.some ?_)
    rw [hd, List.take_of_length_le (by simp; omega)]
    simp
  | succ d ih =>
    intro i hd hi
    have hlt : i < dt.length := by omega
    refine Ev.succ ?_
    simp only [mapF]
    rw [rd_at hlt]
    refine Ev.pos (by omega) (Ev.pos (by omega) (Ev.pos (by simp; omega) (Ev.bind (hg _) ?_)))
    have hm : i < (dt.map g).length := by simpa using hlt
    have e := set_fill (L := dt.map g) (z := (0 : Int)) hm
    rw [List.length_map, List.getElem_map] at e
    rw [Int.toNat_natCast, e, up i hlt (by omega)]
    exact ih (i + 1) (by omega) (by omega)
theorem one_ev (a : Int) (ds dt : List Int) (h1 : ds.length ≤ 1048576) (h2 : dt.length ≤ 1048576) : ∃ x y, Ev (fun k => spec_One.f k a ds dt) (x, y) ∧ Ev (fun k => impl_One.f k a ds dt) (x, y) ∧ x.length ≤ 1048576 ∧ y.length ≤ 1048576 := by
  unfold spec_One.f impl_One.f
  have s := stens_ev ds dt (by omega) (by omega)
  have t := itens_ev ds dt (by omega) (by omega)
  by_cases ha : 1 ≤ a ∧ a ≤ 4
  · have hc : a = 1 ∨ a = 2 ∨ a = 3 ∨ a = 4 := by omega
    cases ht : tensB ds dt with
    | false =>
      rw [ht] at s t
      refine ⟨[], [], Ev.bind s (Ev.neg (by simp) (Ev.succ ?_)), Ev.pos hc (Ev.bind t (Ev.neg (by simp) (Ev.some rfl))), by simp, by simp⟩
      simp only [spec_One.j0]
      exact Ev.pos (by trivial) (Ev.some rfl)
    | true =>
      rw [ht] at s t
      obtain ⟨g, hg⟩ := elems a ha.1 ha.2
      unfold tensB dimsB at ht
      simp only [Bool.and_eq_true, decide_eq_true_eq] at ht
      obtain ⟨⟨hl6, hr⟩, hd, _⟩ := ht
      have p := prod_le hr 0
      rw [List.drop_zero] at p
      have e := size_ev ds (by omega)
      rw [if_pos hr] at e
      refine ⟨ds, dt.map g, Ev.bind s (Ev.pos rfl (Ev.neg (by omega) (Ev.succ ?_))), Ev.pos hc (Ev.bind t (Ev.pos rfl (Ev.pos ⟨by omega, by omega⟩ (Ev.bind (a := dt.map g) ?_ (Ev.some rfl))))), h1, by simpa using h2⟩
      · simp only [spec_One.j0]
        refine Ev.neg (by simp; omega) (Ev.bind (a := (ds, List.replicate (prod ds).toNat 0)) ?_ ?_)
        · unfold spec_l4New.f
          exact Ev.b (l3Ints_f ds (by omega)) (Ev.bind e (Ev.pos (by omega) (Ev.pos (by omega) (Ev.some rfl))))
        · have := sone_l a g (fun x => (hg x).1) ds dt h2 dt.length 0 (by omega) (by omega)
          rw [List.take_zero, List.nil_append, Nat.sub_zero] at this
          rw [show (prod ds).toNat = dt.length by omega]
          exact this
      · have := ione_l _ g (fun x => (hg x).2) dt h2 dt.length 0 (by omega) (by omega)
        rw [List.take_zero, List.nil_append, Nat.sub_zero] at this
        exact this
  · have hc : ¬ (a = 1 ∨ a = 2 ∨ a = 3 ∨ a = 4) := by omega
    refine ⟨[], [], Ev.bind s ?_, Ev.neg hc (Ev.some rfl), by simp, by simp⟩
    refine Ev.ite (fun _ => Ev.ite (fun _ => Ev.succ ?_) (fun h => Ev.succ ?_)) (fun _ => Ev.succ ?_)
    · simp only [spec_One.j0]
      exact Ev.pos (by trivial) (Ev.some rfl)
    · simp only [spec_One.j0]
      exact Ev.pos (by simp; omega) (Ev.some rfl)
    · simp only [spec_One.j0]
      exact Ev.pos (by trivial) (Ev.some rfl)
theorem rest (l0 l1 : List Int) (a : Int) (x y : List Int) (h0 : l0.length ≤ 1048576) (h1 : l1.length ≤ 1048576) (hx : x.length ≤ 1048576) (hy : y.length ≤ 1048576) (hi : Ev (fun k => impl_One.f k a l0 l1) (x, y)) : Ev (fun k => laws_FnExactOne.j0 k a false l0 l1 x y x y) true := by
  have m := markTensor_ev x y hx hy
  have h : Ev (fun k => laws_heldTensor.f k (ups 1 x.length) (ups (1 + (x.length : Int)) y.length) 1) (1 + (x.length : Int) + y.length) := by
    unfold laws_heldTensor.f
    exact Ev.bind (held_ev x.length 1 (by omega) (by omega)) (Ev.neg (by omega) (Ev.bind (held_ev y.length _ (by omega) (by omega)) (Ev.neg (by omega) (Ev.some rfl))))
  refine Ev.succ ?_
  simp only [laws_FnExactOne.j0]
  exact Ev.neg (by simp) (Ev.bind m (Ev.bind h (Ev.neg (by omega) (Ev.pos rfl (Ev.bind (toTensor_ev l0 l1 h0 h1) (Ev.bind hi (Ev.bind (eqTensor_ev x y hx hy) (Ev.pos rfl (Ev.bind h (Ev.neg (by omega) (Ev.pos rfl (Ev.some rfl))))))))))))
theorem FnExactOne (a : Int) (l0 l1 : List Int) {p q : Int → Prop} (hg : (l0.length ≤ maxLen ∧ ∀ y ∈ l0, p y) ∧ (l1.length ≤ maxLen ∧ ∀ y ∈ l1, q y)) : ∃ k, laws_FnExactOne.f k a l0 l1 = some true := by
  have h0 : l0.length ≤ 9223372036854775807 := hg.1.1
  have h1 : l1.length ≤ 9223372036854775807 := hg.2.1
  apply Ev.rounds
  unfold laws_FnExactOne.f
  obtain ⟨q, hq, hz⟩ := szTensor_f l0 l1 h0 h1
  refine Ev.b hq ?_
  rcases hz with hz | ⟨hz, g0, g1⟩
  · exact Ev.pos hz (Ev.some rfl)
  refine Ev.neg (by omega) ?_
  have t := toTensor_ev l0 l1 g0 g1
  obtain ⟨x, y, hs, hi, hx, hy⟩ := one_ev a l0 l1 g0 g1
  refine Ev.bind t (Ev.bind hs (Ev.bind t (Ev.bind hi (Ev.bind (eqTensor_ev x y hx hy) (Ev.pos rfl (Ev.bind t (Ev.bind (eqTensor_ev l0 l1 g0 g1) (Ev.pos rfl (Ev.bind (markTensor_ev l0 l1 g0 g1) (Ev.neg (by simp; omega) (Ev.bind (eqTensor_ev x y hx hy) ?_)))))))))))
  exact rest l0 l1 a x y g0 g1 hx hy hi
end Go.Proofs.Ytcpemdedmepfeac.PureFnExactOne
