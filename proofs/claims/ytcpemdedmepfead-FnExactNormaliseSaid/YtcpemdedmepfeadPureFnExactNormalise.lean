/- Normalise: the program's lines and the reference's places hold the same numbers. -/
import Derived.Test.YtcpemdedmepfeadPFnExactNormalisex
import Derived.Test.YtcpemdedmepfeadBase
import Derived.Test.YtcpemdedmepfeadVM
namespace Go.Proofs.Ytcpemdedmepfead.PureFnExactNormalise
set_option linter.unusedVariables false
set_option linter.unusedSimpArgs false
open Go.RowKit Go.Proofs.Ytcpemdedmepfead.PFnExactNormalise Go.Proofs.YtcpemdedmepfeadW.PrintWords Go.Proofs.YtcpemdedmepfeadW.PrintLast Go.Proofs.YtcpemdedmepfeadW.PrintMore Go.Proofs.Ytcpemdedmepfead.Base Go.Proofs.Ytcpemdedmepfead.VM
/-! ### lists of whole numbers taken over and held against each other -/
theorem toIntS_l (l : List Int) (hn : l.length ≤ 9223372036854775807) : ∀ (d i : Nat), l.length - i = d → i ≤ l.length → Ev (fun k => laws_toIntS.l0 k l (l.take i ++ List.replicate (l.length - i) 0) (i : Int)) l := by
  intro d
  induction d with
  | zero =>
    intro i hd hi
    refine Ev.succ ?_
    simp only [laws_toIntS.l0]
    refine Ev.neg (by omega) (Ev.some ?_)
    rw [hd, List.take_of_length_le (by omega)]
    simp
  | succ d ih =>
    intro i hd hi
    refine Ev.succ ?_
    simp only [laws_toIntS.l0]
    have hlt : i < l.length := by omega
    refine Ev.pos (by omega) (Ev.pos (by omega) (Ev.pos (by simp; omega) ?_))
    rw [rd_at hlt, up i hlt hn, Int.toNat_natCast, set_copy hlt]
    exact ih (i + 1) (by omega) (by omega)
theorem toIntS_ev (l : List Int) (h : l.length ≤ 35184372088832) : Ev (fun k => laws_toIntS.f k l) l := by
  unfold laws_toIntS.f
  refine Ev.pos (by omega) (Ev.pos (by omega) ?_)
  have := toIntS_l l (by omega) l.length 0 (by omega) (by omega)
  simpa using this
theorem eqIntS_l (l : List Int) (hn : l.length ≤ 9223372036854775807) : ∀ (d i : Nat), l.length - i = d → i ≤ l.length → Ev (fun k => laws_eqIntS.l0 k l l (i : Int)) true := by
  intro d
  induction d with
  | zero =>
    intro i hd hi
    refine Ev.succ ?_
    simp only [laws_eqIntS.l0]
    exact Ev.neg (by omega) (Ev.some rfl)
  | succ d ih =>
    intro i hd hi
    refine Ev.succ ?_
    simp only [laws_eqIntS.l0]
    have hlt : i < l.length := by omega
    refine Ev.pos (by omega) (Ev.pos (by omega) (Ev.pos (by omega) (Ev.pos (by trivial) ?_)))
    rw [up i hlt hn]
    exact ih (i + 1) (by omega) (by omega)
theorem eqIntS_ev (l : List Int) (h : l.length ≤ 9223372036854775807) : Ev (fun k => laws_eqIntS.f k l l) true := by
  unfold laws_eqIntS.f
  exact Ev.pos rfl (eqIntS_l l (by omega) l.length 0 (by omega) (by omega))
/-! ### lengths -/
theorem size_l (l : List Int) (hn : l.length ≤ 9223372036854775807) : ∀ (d i : Nat) (n : Int), l.length - i = d → i ≤ l.length → 1 ≤ n → n ≤ 4096 → Ev (fun k => spec_l3Size.l0 k l n (i : Int)) (if runOk n (l.drop i) = true then n * prod (l.drop i) else 0) := by
  intro d
  induction d with
  | zero =>
    intro i n hd hi h0 h1
    refine Ev.succ ?_
    simp only [spec_l3Size.l0]
    refine Ev.neg (by omega) (Ev.some ?_)
    rw [List.drop_eq_nil_of_le (by omega)]
    simp [runOk, prod]
  | succ d ih =>
    intro i n hd hi h0 h1
    have hlt : i < l.length := by omega
    refine Ev.succ ?_
    simp only [spec_l3Size.l0]
    refine Ev.pos (by omega) (Ev.pos (by omega) ?_)
    rw [rd_at hlt, drop_at hlt]
    refine Ev.ite (fun h => Ev.succ ?_) (fun h => Ev.succ ?_)
    · simp only [spec_l3Size.j1]
      refine Ev.pos (by trivial) (Ev.some ?_)
      simp [runOk, h]
    · simp only [spec_l3Size.j1]
      by_cases h2 : 4096 < l[i]
      · refine Ev.pos (by simpa using h2) (Ev.some ?_)
        simp [runOk, h, h2]
      · have p1 : n * l[i] ≤ 4096 * 4096 := Int.mul_le_mul h1 (by omega) (by omega) (by omega)
        have p0 : 1 * 1 ≤ n * l[i] := Int.mul_le_mul h0 (by omega) (by omega) (by omega)
        refine Ev.neg (by simpa using h2) (Ev.pos (by omega) (Ev.pos (by omega) ?_))
        rw [rd_at hlt, wrap_id (by omega : -9223372036854775808 ≤ n * l[i]) (by omega), up i hlt hn]
        refine Ev.ite (fun h3 => Ev.some ?_) (fun h3 => ?_)
        · simp [runOk, h, h2, show 4096 < n * l[i] from h3]
        · have e : runOk n (l[i] :: l.drop (i + 1)) = runOk (n * l[i]) (l.drop (i + 1)) := by
            simp [runOk, h, h2, show ¬ 4096 < n * l[i] from h3]
          rw [e]
          simp only [prod]
          rw [← Int.mul_assoc]
          exact ih (i + 1) _ (by omega) (by omega) (by omega) (by omega)
theorem size_ev (l : List Int) (hn : l.length ≤ 9223372036854775807) : Ev (fun k => spec_l3Size.f k l) (if runOk 1 l = true then prod l else 0) := by
  have := size_l l hn l.length 0 1 (by omega) (by omega) (by omega) (by omega)
  rw [Int.one_mul] at this
  exact this
/-- Lengths that can be. -/
def dimsB (l : List Int) : Bool := decide (l.length ≤ 6) && runOk 1 l
theorem sdims_ev (l : List Int) (hn : l.length ≤ 9223372036854775807) : Ev (fun k => spec_DimsOk.f k l) (dimsB l) := by
  unfold spec_DimsOk.f dimsB
  refine Ev.ite (fun h => Ev.bind (size_ev l hn) (Ev.some ?_)) (fun h => Ev.some ?_)
  · rw [show decide (l.length ≤ 6) = true from decide_eq_true (by omega), Bool.true_and]
    cases hr : runOk 1 l with
    | true =>
      have := prod_pos hr
      simp
      omega
    | false => simp
  · rw [show decide (l.length ≤ 6) = false from decide_eq_false (by omega)]
    rfl
theorem idims_l (l : List Int) (hn : l.length ≤ 9223372036854775807) : ∀ (d i : Nat) (n : Int), l.length - i = d → i ≤ l.length → 1 ≤ n → n ≤ 4096 → Ev (fun k => impl_DimsOk.l0 k l n l (l.length : Int) (i : Int)) (decide (l.length ≤ 6) && runOk n (l.drop i)) := by
  intro d
  induction d with
  | zero =>
    intro i n hd hi h0 h1
    refine Ev.succ ?_
    simp only [impl_DimsOk.l0]
    refine Ev.neg (by omega) (Ev.some ?_)
    rw [List.drop_eq_nil_of_le (by omega)]
    simp only [runOk, Bool.and_true]
    exact decide_eq_decide.2 (by omega)
  | succ d ih =>
    intro i n hd hi h0 h1
    have hlt : i < l.length := by omega
    refine Ev.succ ?_
    simp only [impl_DimsOk.l0]
    refine Ev.pos (by omega) (Ev.pos (by omega) (Ev.pos (by omega) ?_))
    rw [rd_at hlt, drop_at hlt]
    refine Ev.ite (fun h => Ev.succ ?_) (fun h => Ev.succ ?_)
    · simp only [impl_DimsOk.j1]
      refine Ev.pos (by trivial) (Ev.some ?_)
      simp [runOk, h]
    · simp only [impl_DimsOk.j1]
      by_cases h2 : 4096 < l[i]
      · refine Ev.pos (by simpa using h2) (Ev.some ?_)
        simp [runOk, h, h2]
      · have p1 : n * l[i] ≤ 4096 * 4096 := Int.mul_le_mul h1 (by omega) (by omega) (by omega)
        have p0 : 1 * 1 ≤ n * l[i] := Int.mul_le_mul h0 (by omega) (by omega) (by omega)
        refine Ev.neg (by simpa using h2) ?_
        rw [wrap_id (by omega : -9223372036854775808 ≤ n * l[i]) (by omega), up i hlt hn]
        refine Ev.ite (fun h3 => Ev.some ?_) (fun h3 => ?_)
        · simp [runOk, h, h2, show 4096 < n * l[i] from h3]
        · have e : runOk n (l[i] :: l.drop (i + 1)) = runOk (n * l[i]) (l.drop (i + 1)) := by
            simp [runOk, h, h2, show ¬ 4096 < n * l[i] from h3]
          rw [e]
          exact ih (i + 1) _ (by omega) (by omega) (by omega) (by omega)
theorem idims_ev (l : List Int) (hn : l.length ≤ 9223372036854775807) : Ev (fun k => impl_DimsOk.f k l) (dimsB l) := idims_l l hn l.length 0 1 (by omega) (by omega) (by omega) (by omega)
theorem product_l (l : List Int) (hn : l.length ≤ 9223372036854775807) : ∀ (d i : Nat) (n : Int), l.length - i = d → i ≤ l.length → 1 ≤ n → n ≤ 4096 → runOk n (l.drop i) = true → Ev (fun k => impl_product.l0 k n l (l.length : Int) (i : Int)) (n * prod (l.drop i)) := by
  intro d
  induction d with
  | zero =>
    intro i n hd hi h0 h1 hr
    refine Ev.succ ?_
    simp only [impl_product.l0]
    refine Ev.neg (by omega) (Ev.some ?_)
    rw [List.drop_eq_nil_of_le (by omega)]
    simp [prod]
  | succ d ih =>
    intro i n hd hi h0 h1 hr
    have hlt : i < l.length := by omega
    rw [drop_at hlt] at hr ⊢
    obtain ⟨h2, h3, h4, h5⟩ := runOk_cons hr
    have p0 : 1 * 1 ≤ n * l[i] := Int.mul_le_mul h0 h2 (by omega) (by omega)
    refine Ev.succ ?_
    simp only [impl_product.l0]
    refine Ev.pos (by omega) (Ev.pos (by omega) (Ev.pos (by omega) ?_))
    rw [rd_at hlt, up i hlt hn, wrap_id (by omega : -9223372036854775808 ≤ n * l[i]) (by omega)]
    simp only [prod]
    rw [← Int.mul_assoc]
    exact ih (i + 1) _ (by omega) (by omega) (by omega) h4 h5
theorem product_ev (l : List Int) (hn : l.length ≤ 9223372036854775807) (hr : runOk 1 l = true) : Ev (fun k => impl_product.f k l) (prod l) := by
  have := product_l l hn l.length 0 1 (by omega) (by omega) (by omega) (by omega) hr
  rw [Int.one_mul] at this
  exact this
/-! ### marks: written into what was made, and found there again -/
def ups (a : Int) : Nat → List Int
  | 0 => []
  | n + 1 => a :: ups (a + 1) n
theorem ups_len : ∀ (n : Nat) (a : Int), (ups a n).length = n
  | 0, _ => rfl
  | n + 1, a => by simp [ups, ups_len n]
theorem ups_at : ∀ (n : Nat) (a : Int) (i : Nat) (h : i < (ups a n).length), (ups a n)[i] = a + i
  | 0, _, _, h => by simp [ups] at h
  | n + 1, a, 0, _ => by simp [ups]
  | n + 1, a, i + 1, h => by
    simp only [ups, List.getElem_cons_succ]
    rw [ups_at n (a + 1) i (by simpa [ups] using h)]
    omega
theorem set_over {β : Type} {L l : List β} {i : Nat} (h : i < L.length) (hl : l.length = L.length) : (L.take i ++ l.drop i).set i L[i] = L.take (i + 1) ++ l.drop (i + 1) := by
  have h' : i < l.length := by omega
  rw [List.drop_eq_getElem_cons h', List.set_append_right _ _ (by simp; omega), List.length_take, Nat.min_eq_left (by omega), Nat.sub_self, List.set_cons_zero, List.take_succ_eq_append_getElem h, List.append_assoc]
  rfl
theorem mark_l (l : List Int) (a : Int) (h0 : 0 ≤ a) (h1 : a + l.length ≤ 4611686018427387904) : ∀ (d i : Nat), l.length - i = d → i ≤ l.length → Ev (fun k => laws_markIntS.l0 k ((ups a l.length).take i ++ l.drop i) (a + i) (i : Int)) (a + l.length, ups a l.length) := by
  intro d
  induction d with
  | zero =>
    intro i hd hi
    refine Ev.succ ?_
    simp only [laws_markIntS.l0]
    have e : (ups a l.length).take i ++ l.drop i = ups a l.length := by
      rw [List.drop_eq_nil_of_le (by omega), List.append_nil, List.take_of_length_le (by rw [ups_len]; omega)]
    rw [e]
    exact Ev.neg (by rw [ups_len]; omega) (Ev.some (by rw [show i = l.length by omega]))
  | succ d ih =>
    intro i hd hi
    refine Ev.succ ?_
    simp only [laws_markIntS.l0]
    have hu : i < (ups a l.length).length := by rw [ups_len]; omega
    refine Ev.pos (by simp [ups_len]; omega) (Ev.pos (by omega) ?_)
    have e := set_over hu (l := l) (by rw [ups_len])
    rw [ups_at l.length a i hu] at e
    rw [Int.toNat_natCast, e, up i (by omega : i < l.length) (by omega), wrap_id (by omega) (by omega), show a + (i : Int) + 1 = a + ((i + 1 : Nat) : Int) by omega]
    exact ih (i + 1) (by omega) (by omega)
theorem mark_ev (l : List Int) (a : Int) (h0 : 0 ≤ a) (h1 : a + l.length ≤ 4611686018427387904) : Ev (fun k => laws_markIntS.f k l a) (a + l.length, ups a l.length) := by
  unfold laws_markIntS.f
  have := mark_l l a h0 h1 l.length 0 (by omega) (by omega)
  simpa using this
/-! ### tensors that can be -/
def numB (x : Int) : Bool := decide (0 ≤ x) && decide (x < 2147483647)
def tensB (dims data : List Int) : Bool := dimsB dims && (decide ((data.length : Int) = prod dims) && data.all numB)
theorem stens_l (dims l : List Int) (hn : l.length ≤ 9223372036854775807) : ∀ (d i : Nat), l.length - i = d → i ≤ l.length → Ev (fun k => spec_TensorOk.l0 k (i : Int) dims l) ((l.drop i).all numB) := by
  intro d
  induction d with
  | zero =>
    intro i hd hi
    refine Ev.succ ?_
    simp only [spec_TensorOk.l0]
    refine Ev.neg (by omega) (Ev.some ?_)
    rw [List.drop_eq_nil_of_le (by omega)]
    rfl
  | succ d ih =>
    intro i hd hi
    have hlt : i < l.length := by omega
    refine Ev.succ ?_
    simp only [spec_TensorOk.l0]
    refine Ev.pos (by omega) (Ev.pos (by omega) ?_)
    rw [rd_at hlt, drop_at hlt, List.all_cons, up i hlt hn]
    refine Ev.ite (fun h => Ev.some ?_) (fun h => Ev.ite (fun h2 => Ev.some ?_) (fun h2 => ?_))
    · simp [numB, show ¬ (0 ≤ l[i]) by omega]
    · simp [numB, show ¬ (l[i] < 2147483647) by omega]
    · rw [show numB l[i] = true by simp [numB]; omega, Bool.true_and]
      exact ih (i + 1) (by omega) (by omega)
theorem stens_ev (dims l : List Int) (hd : dims.length ≤ 9223372036854775807) (hn : l.length ≤ 9223372036854775807) : Ev (fun k => spec_TensorOk.f k dims l) (tensB dims l) := by
  unfold spec_TensorOk.f tensB
  refine Ev.bind (sdims_ev dims hd) ?_
  cases hb : dimsB dims with
  | false =>
    refine Ev.neg (by simp) (Ev.succ ?_)
    simp only [spec_TensorOk.j0]
    exact Ev.pos (by trivial) (Ev.some rfl)
  | true =>
    have hb' := hb
    unfold dimsB at hb'
    simp only [Bool.and_eq_true, decide_eq_true_eq] at hb'
    have e := size_ev dims hd
    rw [if_pos hb'.2] at e
    refine Ev.pos rfl (Ev.bind e (Ev.succ ?_))
    simp only [spec_TensorOk.j0, Bool.true_and]
    by_cases h : (l.length : Int) = prod dims
    · refine Ev.neg (by simpa using h) ?_
      rw [decide_eq_true h, Bool.true_and]
      exact stens_l dims l hn l.length 0 (by omega) (by omega)
    · refine Ev.pos (by simpa using h) (Ev.some ?_)
      rw [decide_eq_false h]
      rfl
theorem isnum_f (x : Int) : impl_isNum.f x = some (numB x) := by
  unfold impl_isNum.f numB
  split
  · next h => rw [decide_eq_true (show 0 ≤ x by omega), Bool.true_and]
  · next h => rw [decide_eq_false (show ¬ 0 ≤ x by omega), Bool.false_and]
theorem nums_l (l : List Int) (hn : l.length ≤ 9223372036854775807) : ∀ (d i : Nat), l.length - i = d → i ≤ l.length → Ev (fun k => impl_allNums.l0 k l (l.length : Int) (i : Int)) ((l.drop i).all numB) := by
  intro d
  induction d with
  | zero =>
    intro i hd hi
    refine Ev.succ ?_
    simp only [impl_allNums.l0]
    refine Ev.neg (by omega) (Ev.some ?_)
    rw [List.drop_eq_nil_of_le (by omega)]
    rfl
  | succ d ih =>
    intro i hd hi
    have hlt : i < l.length := by omega
    refine Ev.succ ?_
    simp only [impl_allNums.l0]
    refine Ev.pos (by omega) (Ev.pos (by omega) (Ev.pos (by omega) ?_))
    rw [rd_at hlt, drop_at hlt, List.all_cons, up i hlt hn]
    refine Ev.b (isnum_f _) ?_
    cases numB l[i] with
    | false => exact Ev.neg (by simp) (Ev.some rfl)
    | true => exact Ev.pos rfl (ih (i + 1) (by omega) (by omega))
theorem nums_ev (l : List Int) (hn : l.length ≤ 9223372036854775807) : Ev (fun k => impl_allNums.f k l) (l.all numB) := by
  unfold impl_allNums.f
  exact nums_l l hn l.length 0 (by omega) (by omega)
theorem itens_ev (dims l : List Int) (hd : dims.length ≤ 9223372036854775807) (hn : l.length ≤ 9223372036854775807) : Ev (fun k => impl_TensorOk.f k dims l) (tensB dims l) := by
  unfold impl_TensorOk.f tensB
  refine Ev.bind (idims_ev dims hd) ?_
  cases hb : dimsB dims with
  | false => exact Ev.neg (by simp) (Ev.some rfl)
  | true =>
    have hb' := hb
    unfold dimsB at hb'
    simp only [Bool.and_eq_true, decide_eq_true_eq] at hb'
    refine Ev.pos rfl (Ev.bind (product_ev dims hd hb'.2) ?_)
    rw [Bool.true_and]
    refine Ev.ite (fun h => ?_) (fun h => ?_)
    · rw [decide_eq_true h, Bool.true_and]
      exact Ev.bind (nums_ev l hn) (Ev.some rfl)
    · rw [decide_eq_false h]
      exact Ev.some rfl
theorem toTensor_ev (a b : List Int) (ha : a.length ≤ 1048576) (hb : b.length ≤ 1048576) : Ev (fun k => laws_toTensor.f k a b) (a, b) := by
  unfold laws_toTensor.f
  exact Ev.bind (toIntS_ev a (by omega)) (Ev.bind (toIntS_ev b (by omega)) (Ev.some rfl))
theorem eqTensor_ev (a b : List Int) (ha : a.length ≤ 1048576) (hb : b.length ≤ 1048576) : Ev (fun k => laws_eqTensor.f k a b a b) true := by
  unfold laws_eqTensor.f
  exact Ev.bind (eqIntS_ev a (by omega)) (Ev.pos rfl (Ev.bind (eqIntS_ev b (by omega)) (Ev.pos rfl (Ev.some rfl))))
theorem markTensor_ev (a b : List Int) (ha : a.length ≤ 1048576) (hb : b.length ≤ 1048576) : Ev (fun k => laws_markTensor.f k a b 1) (1 + (a.length : Int) + b.length, ups 1 a.length, ups (1 + (a.length : Int)) b.length) := by
  unfold laws_markTensor.f
  exact Ev.bind (mark_ev a 1 (by omega) (by omega)) (Ev.bind (mark_ev b _ (by omega) (by omega)) (Ev.some rfl))
theorem szTensor_f (a b : List Int) (ha : a.length ≤ 9223372036854775807) (hb : b.length ≤ 9223372036854775807) : ∃ q, laws_szTensor.f a b 1048576 = some q ∧ (q < 0 ∨ (0 ≤ q ∧ a.length ≤ 1048576 ∧ b.length ≤ 1048576)) := by
  unfold laws_szTensor.f laws_szIntS.f
  rw [wrap_id (by omega) (by omega)]
  by_cases h : (1048576 : Int) - (a.length : Int) < 0
  · rw [if_pos h, Option.bind_some, if_pos (by omega)]
    exact ⟨_, rfl, .inl (by omega)⟩
  · rw [if_neg h, Option.bind_some, if_neg h, wrap_id (by omega) (by omega)]
    by_cases h2 : (1048576 : Int) - (a.length : Int) - (b.length : Int) < 0
    · rw [if_pos h2, Option.bind_some, if_pos (by omega)]
      exact ⟨_, rfl, .inl (by omega)⟩
    · rw [if_neg h2, Option.bind_some, if_neg h2]
      exact ⟨_, rfl, .inr ⟨by omega, by omega, by omega⟩⟩
theorem held_l (n : Nat) (a : Int) (h0 : 0 ≤ a) (h1 : a + n ≤ 4611686018427387904) : ∀ (d i : Nat), n - i = d → i ≤ n → Ev (fun k => laws_heldIntS.l0 k (ups a n) (a + i) (i : Int)) (a + n) := by
  intro d
  induction d with
  | zero =>
    intro i hd hi
    refine Ev.succ ?_
    simp only [laws_heldIntS.l0]
    exact Ev.neg (by rw [ups_len]; omega) (Ev.some (by rw [show i = n by omega]))
  | succ d ih =>
    intro i hd hi
    refine Ev.succ ?_
    simp only [laws_heldIntS.l0]
    have hu : i < (ups a n).length := by rw [ups_len]; omega
    refine Ev.pos (by omega) (Ev.pos (by omega) ?_)
    rw [rd_at hu, ups_at n a i hu, up i (by omega : i < n) (by omega), wrap_id (by omega) (by omega), show a + (i : Int) + 1 = a + ((i + 1 : Nat) : Int) by omega]
    exact Ev.pos rfl (ih (i + 1) (by omega) (by omega))
theorem held_ev (n : Nat) (a : Int) (h0 : 0 ≤ a) (h1 : a + n ≤ 4611686018427387904) : Ev (fun k => laws_heldIntS.f k (ups a n) a) (a + n) := by
  unfold laws_heldIntS.f
  have := held_l n a h0 h1 n 0 (by omega) (by omega)
  simpa using this
theorem clone_f (l : List Int) (h : l.length < 17592186044416) : slices_Clone_int_int.f l = some l := by
  unfold slices_Clone_int_int.f
  rw [if_pos h]
/-! ### indexes in order, and their places -/
theorem index_l (l : List Int) (hn : l.length ≤ 6) (hd : ∀ d ∈ l, 1 ≤ d) (k0 : Int) (hk : 0 ≤ k0) (hk' : k0 ≤ 9223372036854775807) : ∀ (i : Nat), i ≤ l.length →
    Ev (fun k => spec_l3Index.l0 k l (idxs (l.drop i) k0).2 (List.replicate i 0 ++ (idxs (l.drop i) k0).1) ((i : Int) - 1)) (idxs l k0).1 := by
  intro i
  induction i with
  | zero =>
    intro hi
    refine Ev.succ ?_
    simp only [spec_l3Index.l0]
    refine Ev.neg (by omega) (Ev.some ?_)
    simp
  | succ i ih =>
    intro hi
    have hlt : i < l.length := by omega
    have hdi := hd _ (List.getElem_mem hlt)
    have hnn : 0 ≤ (idxs (l.drop (i + 1)) k0).2 := idxs_nonneg (fun d hm => hd d (List.mem_of_mem_drop hm)) hk
    have hle : (idxs (l.drop (i + 1)) k0).2 ≤ k0 := by
      have o := ord_idxs (ds := l.drop (i + 1)) (fun d hm => hd d (List.mem_of_mem_drop hm)) hk
      obtain ⟨o1, o2⟩ := ord_lt (ds := l.drop (i + 1)) (fun d hm => hd d (List.mem_of_mem_drop hm)) (idxs_in (fun d hm => hd d (List.mem_of_mem_drop hm)) hk)
      have p : (idxs (l.drop (i + 1)) k0).2 * 1 ≤ (idxs (l.drop (i + 1)) k0).2 * prod (l.drop (i + 1)) := Int.mul_le_mul_of_nonneg_left (by omega) hnn
      omega
    have hq : 0 ≤ (idxs (l.drop (i + 1)) k0).2 / l[i] := Int.ediv_nonneg hnn (by omega)
    have hq' : (idxs (l.drop (i + 1)) k0).2 / l[i] ≤ (idxs (l.drop (i + 1)) k0).2 := Int.ediv_le_self _ hnn
    refine Ev.succ ?_
    simp only [spec_l3Index.l0]
    have e1 : ((i + 1 : Nat) : Int) - 1 = (i : Int) := by omega
    rw [e1]
    refine Ev.pos (by omega) (Ev.pos (by omega) (Ev.pos (by omega) ?_))
    rw [rd_at hlt]
    refine Ev.neg (by omega) (Ev.pos (by simp [idxs_len]; omega) ?_)
    rw [wrap_id (by omega : -9223372036854775808 ≤ (i : Int) - 1) (by omega), Int.tdiv_eq_ediv_of_nonneg hnn, Int.tmod_eq_emod_of_nonneg hnn, wrap_id (by omega : -9223372036854775808 ≤ (idxs (l.drop (i + 1)) k0).2 / l[i]) (by omega), Int.toNat_natCast]
    have ih := ih (by omega)
    rw [drop_at hlt] at ih
    simp only [idxs] at ih
    have e2 : (List.replicate (i + 1) (0 : Int) ++ (idxs (l.drop (i + 1)) k0).1).set i ((idxs (l.drop (i + 1)) k0).2 % l[i]) = List.replicate i 0 ++ ((idxs (l.drop (i + 1)) k0).2 % l[i] :: (idxs (l.drop (i + 1)) k0).1) := by
      rw [show List.replicate (i + 1) (0 : Int) = List.replicate i 0 ++ [0] from List.replicate_succ', List.append_assoc, List.set_append_right _ _ (by simp)]
      simp
    rw [e2]
    exact ih
theorem index_ev (l : List Int) (hn : l.length ≤ 6) (hd : ∀ d ∈ l, 1 ≤ d) (k0 : Int) (hk : 0 ≤ k0) (hk' : k0 ≤ 9223372036854775807) : Ev (fun k => spec_l3Index.f k l k0) (idxs l k0).1 := by
  unfold spec_l3Index.f
  refine Ev.pos (by omega) (Ev.pos (by omega) ?_)
  have := index_l l hn hd k0 hk hk' l.length (by omega)
  rw [List.drop_length] at this
  simp only [idxs, List.append_nil] at this
  rw [wrap_id (by omega) (by omega)]
  exact this
/-! ### a place along an axis: what stands before, along and behind -/
theorem prod_split : ∀ (a : Nat) (ds : List Int) (_ : a < ds.length), prod ds = prod (ds.take a) * ds.getD a 0 * prod (ds.drop (a + 1))
  | 0, d :: ds, _ => by simp [prod]
  | a + 1, d :: ds, h => by
    have ih := prod_split a ds (by simpa using h)
    simp only [List.take_succ_cons, List.drop_succ_cons, List.getD_cons_succ, prod]
    rw [ih]
    grind
theorem ord_split : ∀ (a : Nat) (ds xs : List Int) (_ : a < ds.length) (_ : xs.length = ds.length), ord ds xs = (ord (ds.take a) (xs.take a) * ds.getD a 0 + xs.getD a 0) * prod (ds.drop (a + 1)) + ord (ds.drop (a + 1)) (xs.drop (a + 1))
  | 0, d :: ds, x :: xs, _, _ => by
    simp [ord]
  | a + 1, d :: ds, x :: xs, h, hl => by
    have ih := ord_split a ds xs (by simpa using h) (by simpa using hl)
    have ip := prod_split a ds (by simpa using h)
    simp only [List.take_succ_cons, List.drop_succ_cons, List.getD_cons_succ, ord]
    rw [ih, ip]
    grind
/-- Setting one place of an index moves its place in the order by so many steps. -/
theorem ord_set (a : Nat) (ds xs : List Int) (h : a < ds.length) (hl : xs.length = ds.length) (v : Int) : ord ds (xs.set a v) = (ord (ds.take a) (xs.take a) * ds.getD a 0 + v) * prod (ds.drop (a + 1)) + ord (ds.drop (a + 1)) (xs.drop (a + 1)) := by
  rw [ord_split a ds (xs.set a v) h (by simpa using hl)]
  have e1 : (xs.set a v).take a = xs.take a := by rw [List.take_set_of_le (Nat.le_refl a)]
  have e2 : (xs.set a v).drop (a + 1) = xs.drop (a + 1) := by rw [List.drop_set_of_lt (by omega)]
  have e3 : (xs.set a v).getD a 0 = v := by
    rw [List.getD_eq_getElem?_getD, List.getElem?_set_self (by omega), Option.getD_some]
  rw [e1, e2, e3]
/-! ### the reference's lines along an axis -/
theorem inD_at : ∀ {ds xs : List Int}, inD ds xs → ∀ (i : Nat) (h : i < ds.length) (h' : i < xs.length), 0 ≤ xs[i] ∧ xs[i] < ds[i]
  | [], [], _, i, h, _ => by simp at h
  | d :: ds, x :: xs, hi, i, h, h' => by
    cases i with
    | zero => exact ⟨hi.1, hi.2.1⟩
    | succ i =>
      simp only [List.getElem_cons_succ]
      exact inD_at hi.2.2 i (by simpa using h) (by simpa using h')
  | [], _ :: _, h, _, _, _ => h.elim
  | _ :: _, [], h, _, _, _ => h.elim
theorem inD_set : ∀ {ds xs : List Int}, inD ds xs → ∀ (a : Nat) (v : Int) (_ : a < ds.length), 0 ≤ v → v < ds.getD a 0 → inD ds (xs.set a v)
  | [], [], _, a, _, h, _, _ => by simp at h
  | d :: ds, x :: xs, hi, a, v, h, h0, h1 => by
    cases a with
    | zero => exact ⟨h0, by simpa using h1, hi.2.2⟩
    | succ a => exact ⟨hi.1, hi.2.1, inD_set hi.2.2 a v (by simpa using h) h0 (by simpa using h1)⟩
  | [], _ :: _, h, _, _, _, _, _ => h.elim
  | _ :: _, [], h, _, _, _, _, _ => h.elim
theorem order_l (ds xs : List Int) (hn : ds.length ≤ 6) (hl : xs.length = ds.length) (hr : runOk 1 ds = true) (hi : inD ds xs) : ∀ (d i : Nat) (acc : Int), ds.length - i = d → i ≤ ds.length → 0 ≤ acc → (acc + 1) * prod (ds.drop i) ≤ 4096 →
    Ev (fun k => spec_l3Order.l0 k ds xs acc (i : Int)) (acc * prod (ds.drop i) + ord (ds.drop i) (xs.drop i)) := by
  have hall := run_all hr
  intro d
  induction d with
  | zero =>
    intro i acc hd hi' h0 h1
    refine Ev.succ ?_
    simp only [spec_l3Order.l0]
    refine Ev.neg (by omega) (Ev.some ?_)
    rw [List.drop_eq_nil_of_le (by omega), List.drop_eq_nil_of_le (by omega)]
    simp [prod, ord]
  | succ d ih =>
    intro i acc hd hi' h0 h1
    have hlt : i < ds.length := by omega
    have hlt' : i < xs.length := by omega
    have hx := inD_at hi i hlt hlt'
    have hdi := hall _ (List.getElem_mem hlt)
    have hp := prod_le hr (i + 1)
    rw [drop_at hlt] at h1
    simp only [prod] at h1
    have e1 : (acc + 1) * (ds[i] * prod (ds.drop (i + 1))) = (acc * ds[i] + ds[i]) * prod (ds.drop (i + 1)) := by grind
    have e2 : (acc * ds[i] + xs[i] + 1) * prod (ds.drop (i + 1)) ≤ (acc * ds[i] + ds[i]) * prod (ds.drop (i + 1)) := Int.mul_le_mul_of_nonneg_right (by omega) (by omega)
    have m0 : 0 ≤ acc * ds[i] := Int.mul_nonneg h0 (by omega)
    have m1 : (acc * ds[i] + ds[i]) * 1 ≤ (acc * ds[i] + ds[i]) * prod (ds.drop (i + 1)) := Int.mul_le_mul_of_nonneg_left hp.1 (by omega)
    have ih := ih (i + 1) (acc * ds[i] + xs[i]) (by omega) (by omega) (by omega) (by omega)
    refine Ev.succ ?_
    simp only [spec_l3Order.l0]
    refine Ev.pos (by omega) (Ev.pos (by omega) (Ev.pos (by omega) ?_))
    rw [rd_at hlt, rd_at hlt', up i hlt (by omega), wrap_id (by omega : -9223372036854775808 ≤ acc * ds[i]) (by omega), wrap_id (by omega : -9223372036854775808 ≤ acc * ds[i] + xs[i]) (by omega), drop_at hlt, drop_at hlt']
    simp only [prod, ord]
    rw [show acc * (ds[i] * prod (ds.drop (i + 1))) + (xs[i] * prod (ds.drop (i + 1)) + ord (ds.drop (i + 1)) (xs.drop (i + 1))) = (acc * ds[i] + xs[i]) * prod (ds.drop (i + 1)) + ord (ds.drop (i + 1)) (xs.drop (i + 1)) by grind]
    exact ih
theorem order_ev (ds xs : List Int) (hn : ds.length ≤ 6) (hl : xs.length = ds.length) (hr : runOk 1 ds = true) (hi : inD ds xs) : Ev (fun k => spec_l3Order.f k ds xs) (ord ds xs) := by
  have hp := prod_le hr 0
  have := order_l ds xs hn hl hr hi ds.length 0 0 (by omega) (by omega) (by omega) (by omega)
  unfold spec_l3Order.f
  simpa using this
theorem l3Ints_f (l : List Int) (h : l.length < 17592186044416) : spec_l3Ints.f l = some l := by
  unfold spec_l3Ints.f
  rw [Option.bind_some, if_pos (by simpa using h)]
  rfl
theorem with_f (l : List Int) (a : Nat) (v : Int) (h : a < l.length) (hl : l.length < 17592186044416) : spec_l4With.f l (a : Int) v = some (l.set a v) := by
  unfold spec_l4With.f
  rw [l3Ints_f l hl, Option.bind_some, if_pos (by omega), if_pos (by omega), Int.toNat_natCast]
theorem ord_lt' {ds xs : List Int} (hr : runOk 1 ds = true) (hi : inD ds xs) : 0 ≤ ord ds xs ∧ ord ds xs < prod ds := ord_lt (fun d hd => (run_all hr d hd).1) hi
theorem get_ev (ds data xs : List Int) (hn : ds.length ≤ 6) (hl : xs.length = ds.length) (hr : runOk 1 ds = true) (hi : inD ds xs) (hd : (data.length : Int) = prod ds) : Ev (fun k => spec_l4Get.f k ds data xs) (rd data (ord ds xs)) := by
  have h := ord_lt' hr hi
  unfold spec_l4Get.f
  exact Ev.bind (order_ev ds xs hn hl hr hi) (Ev.pos h.1 (Ev.pos (by omega) (Ev.some rfl)))
/-- What stands along the axis a through the index xs. -/
def lineOf (ds data xs : List Int) (a n : Nat) : List Int := (List.range n).map (fun k : Nat => rd data (ord ds (xs.set a (k : Int))))
theorem line_l (ds data xs : List Int) (a n : Nat) (hn : ds.length ≤ 6) (hl : xs.length = ds.length) (hr : runOk 1 ds = true) (hi : inD ds xs) (hd : (data.length : Int) = prod ds) (ha : a < ds.length) (hnn : ds.getD a 0 = (n : Int)) :
    ∀ (d i : Nat), n - i = d → i ≤ n → Ev (fun k => spec_l4Line.l0 k (a : Int) xs ((List.range i).map (fun k : Nat => rd data (ord ds (xs.set a (k : Int))))) (i : Int) ds data) (lineOf ds data xs a n) := by
  have hra : rd ds (a : Int) = (n : Int) := by rw [rd, Int.toNat_natCast]; exact hnn
  have hn4 : n ≤ 4096 := by
    have h := run_all hr _ (List.getElem_mem ha)
    rw [List.getD_eq_getElem?_getD, List.getElem?_eq_getElem ha, Option.getD_some] at hnn
    omega
  intro d
  induction d with
  | zero =>
    intro i hd' hi'
    have : i = n := by omega
    subst this
    refine Ev.succ ?_
    simp only [spec_l4Line.l0]
    refine Ev.pos (by omega) (Ev.pos (by omega) ?_)
    rw [hra]
    exact Ev.neg (by omega) (Ev.some rfl)
  | succ d ih =>
    intro i hd' hi'
    refine Ev.succ ?_
    simp only [spec_l4Line.l0]
    refine Ev.pos (by omega) (Ev.pos (by omega) ?_)
    rw [hra]
    have hs := inD_set hi a (i : Int) ha (by omega) (by omega)
    refine Ev.pos (by omega) (Ev.b (with_f xs a (i : Int) (by omega) (by omega)) (Ev.bind (get_ev ds data _ hn (by rw [List.length_set]; exact hl) hr hs hd) (Ev.pos (by simp; omega) ?_)))
    rw [up i (by omega : i < n) (by omega)]
    have := ih (i + 1) (by omega) (by omega)
    rw [List.range_succ, List.map_append] at this
    exact this
theorem line_ev (ds data xs : List Int) (a n : Nat) (hn : ds.length ≤ 6) (hl : xs.length = ds.length) (hr : runOk 1 ds = true) (hi : inD ds xs) (hd : (data.length : Int) = prod ds) (ha : a < ds.length) (hnn : ds.getD a 0 = (n : Int)) : Ev (fun k => spec_l4Line.f k ds data (a : Int) xs) (lineOf ds data xs a n) := by
  unfold spec_l4Line.f
  exact line_l ds data xs a n hn hl hr hi hd ha hnn n 0 (by omega) (by omega)
/-! ### the program's lines along an axis -/
theorem run_take : ∀ {l : List Int} {n : Int} (i : Nat), runOk n l = true → runOk n (l.take i) = true
  | [], n, i, h => by simpa using h
  | d :: ds, n, 0, h => by simp [runOk]
  | d :: ds, n, i + 1, h => by
    have h2 := runOk_cons h
    have := run_take i h2.2.2.2
    rw [List.take_succ_cons]
    simp only [runOk]
    rw [if_neg (by omega), if_neg (by omega), if_neg (by omega)]
    exact this
theorem lines_ev (ds : List Int) (a : Nat) (hn : ds.length ≤ 6) (hr : runOk 1 ds = true) (ha : a < ds.length) : Ev (fun k => impl_lines.f k ds (a : Int)) (prod (ds.take a), ds.getD a 0, prod (ds.drop (a + 1))) := by
  unfold impl_lines.f
  have w : wrap64 ((a : Int) + 1) = ((a + 1 : Nat) : Int) := by rw [wrap_id] <;> omega
  rw [w, Int.toNat_natCast, Int.toNat_natCast]
  exact Ev.pos (by omega) (Ev.pos (by omega) (Ev.bind (product_ev _ (by rw [List.length_take]; omega) (run_take a hr)) (Ev.pos (by omega) (Ev.pos (by omega) (Ev.pos (by omega) (Ev.bind (product_ev _ (by rw [List.length_drop]; omega) (run_drop (a + 1) hr)) (Ev.some (by rw [rd, Int.toNat_natCast]))))))))
/-! ### a place told by what stands before, along and behind -/
theorem cell_of (n B i k j : Nat) (hk : k < n) (hj : j < B) : ((i * n + k) * B + j) / B / n = i ∧ ((i * n + k) * B + j) / B % n = k ∧ ((i * n + k) * B + j) % B = j := by
  have h1 : ((i * n + k) * B + j) / B = i * n + k := by
    rw [Nat.mul_comm, Nat.mul_add_div (by omega), Nat.div_eq_of_lt hj, Nat.add_zero]
  have h2 : ((i * n + k) * B + j) % B = j := by
    rw [Nat.mul_comm, Nat.mul_add_mod, Nat.mod_eq_of_lt hj]
  have h3 : (i * n + k) / n = i := by
    rw [Nat.mul_comm, Nat.mul_add_div (by omega), Nat.div_eq_of_lt hk, Nat.add_zero]
  have h4 : (i * n + k) % n = k := by
    rw [Nat.mul_comm, Nat.mul_add_mod, Nat.mod_eq_of_lt hk]
  exact ⟨by rw [h1, h3], by rw [h1, h4], h2⟩
theorem cell_eq (n B q : Nat) : q = (q / B / n * n + q / B % n) * B + q % B := by
  have h1 : q / B / n * n + q / B % n = q / B := by
    have := Nat.div_add_mod (q / B) n
    rw [Nat.mul_comm] at this
    exact this
  rw [h1]
  have := Nat.div_add_mod q B
  rw [Nat.mul_comm] at this
  exact this.symm
theorem set_map (N : Nat) (f : Nat → Int) (p : Nat) (v : Int) : ((List.range N).map f).set p v = (List.range N).map (fun q => if q = p then v else f q) := by
  apply List.ext_getElem (by simp)
  intro q h1 h2
  rw [List.getElem_set, List.getElem_map, List.getElem_map, List.getElem_range]
  by_cases e : q = p
  · rw [if_pos e.symm, if_pos e]
  · rw [if_neg (fun h => e h.symm), if_neg e]
/-! ### numbers modulo the prime, by both -/
def md (x : Int) : Int := x % 2147483647
theorem md_lt (x : Int) : 0 ≤ md x ∧ md x < 2147483647 := by
  unfold md
  omega
theorem md_id {x : Int} (h0 : 0 ≤ x) (h1 : x < 2147483647) : md x = x := by
  unfold md
  omega
theorem tmod_md (x : Int) : Int.tmod x 2147483647 = if x < 0 ∧ md x ≠ 0 then md x - 2147483647 else md x := by
  unfold md
  by_cases h : 0 ≤ x
  · rw [Int.tmod_eq_emod_of_nonneg h, if_neg (by omega)]
  · obtain ⟨y, rfl⟩ : ∃ y, x = -y := ⟨-x, by omega⟩
    rw [Int.neg_tmod, Int.tmod_eq_emod_of_nonneg (by omega)]
    split <;> omega
theorem smod_f (x : Int) : spec_Mod.f x = some (md x) := by
  have l := md_lt x
  unfold spec_Mod.f
  rw [tmod_md]
  split
  · rw [if_pos (by omega), wrap_id (by omega) (by omega)]
    exact congrArg some (by omega)
  · rw [if_neg (by omega)]
theorem imod_f (x : Int) : impl_Mod.f x = some (md x) := by
  have l := md_lt x
  unfold impl_Mod.f
  rw [tmod_md]
  split
  · rw [if_pos (by omega), wrap_id (by omega) (by omega)]
    exact congrArg some (by omega)
  · rw [if_neg (by omega)]
theorem md_md (x : Int) : md (md x) = md x := by
  unfold md
  omega
theorem md_add (x y : Int) : md (md x + md y) = md (x + y) := by
  unfold md
  omega
theorem md_mul (x y : Int) : md (md x * md y) = md (x * y) := by
  unfold md
  rw [← Int.mul_emod]
theorem mul_lt {x y : Int} (hx : 0 ≤ x ∧ x < 2147483647) (hy : 0 ≤ y ∧ y < 2147483647) : 0 ≤ x * y ∧ x * y < 4611686014132420609 := by
  have a : 0 ≤ x * y := Int.mul_nonneg hx.1 hy.1
  have b : x * y ≤ 2147483646 * 2147483646 := Int.mul_le_mul (by omega) (by omega) hy.1 (by omega)
  omega
theorem sminus_f (x y : Int) : spec_Minus.f x y = some (md (x - y)) := by
  have a := md_lt x
  have b := md_lt y
  unfold spec_Minus.f
  rw [smod_f, smod_f, Option.bind_some, Option.bind_some, wrap_id (by omega) (by omega), smod_f, Option.bind_some]
  unfold md
  exact congrArg some (by omega)
theorem splus_f (x y : Int) : spec_Plus.f x y = some (md (x + y)) := by
  have a := md_lt x
  have b := md_lt y
  unfold spec_Plus.f
  rw [smod_f, smod_f, Option.bind_some, Option.bind_some, wrap_id (by omega) (by omega), smod_f, Option.bind_some, md_add]
theorem stimes_f (x y : Int) : spec_Times.f x y = some (md (x * y)) := by
  have a := mul_lt (md_lt x) (md_lt y)
  unfold spec_Times.f
  rw [smod_f, smod_f, Option.bind_some, Option.bind_some, wrap_id (by omega) (by omega), smod_f, Option.bind_some, md_mul]
theorem ires_f (x : Int) : impl_res.f x = some (md x) := by
  unfold impl_res.f
  rw [imod_f, Option.bind_some]
theorem rplus_f {x y : Int} (hx : 0 ≤ x ∧ x < 2147483647) (hy : 0 ≤ y ∧ y < 2147483647) : impl_residue_plus.f x y = some (md (x + y)) := by
  unfold impl_residue_plus.f
  rw [wrap_id (by omega) (by omega)]
  split
  · rw [wrap_id (by omega) (by omega)]
    unfold md
    exact congrArg some (by omega)
  · unfold md
    exact congrArg some (by omega)
theorem rtimes_f {x y : Int} (hx : 0 ≤ x ∧ x < 2147483647) (hy : 0 ≤ y ∧ y < 2147483647) : impl_residue_times.f x y = some (md (x * y)) := by
  have a := mul_lt hx hy
  unfold impl_residue_times.f
  rw [wrap_id (by omega) (by omega), Int.tmod_eq_emod_of_nonneg a.1]
  rfl
theorem iminus_f (x y : Int) : impl_Minus.f x y = some (md (x - y)) := by
  have a := md_lt x
  have b := md_lt y
  unfold impl_Minus.f
  rw [ires_f, imod_f, Option.bind_some, Option.bind_some, wrap_id (by omega) (by omega), ires_f, Option.bind_some, rplus_f (md_lt x) (md_lt _), Option.bind_some]
  unfold md
  exact congrArg some (by omega)
theorem iplus_f (x y : Int) : impl_Plus.f x y = some (md (x + y)) := by
  unfold impl_Plus.f
  rw [ires_f, ires_f, Option.bind_some, Option.bind_some, rplus_f (md_lt x) (md_lt y), Option.bind_some, md_add]
theorem itimes_f (x y : Int) : impl_Times.f x y = some (md (x * y)) := by
  unfold impl_Times.f
  rw [ires_f, ires_f, Option.bind_some, Option.bind_some, rtimes_f (md_lt x) (md_lt y), Option.bind_some, md_mul]
/-! ### powers -/
def pw (a : Int) : Nat → Int
  | 0 => 1
  | n + 1 => pw a n * a % 2147483647
theorem pw_lt (a : Int) (n : Nat) : 0 ≤ pw a n ∧ pw a n < 2147483647 := by
  cases n with
  | zero => simp [pw]
  | succ n => simp only [pw]; omega
theorem mm1 (x y : Int) : x % 2147483647 * y % 2147483647 = x * y % 2147483647 := by
  rw [Int.mul_emod, Int.emod_emod_of_dvd _ (Int.dvd_refl _), ← Int.mul_emod]
theorem mm2 (x y : Int) : x * (y % 2147483647) % 2147483647 = x * y % 2147483647 := by
  rw [Int.mul_comm, mm1, Int.mul_comm]
theorem pw_add (a : Int) (m n : Nat) : pw a (m + n) = pw a m * pw a n % 2147483647 := by
  induction n with
  | zero =>
    have := pw_lt a m
    simp only [Nat.add_zero, pw, Int.mul_one]
    omega
  | succ n ih =>
    rw [← Nat.add_assoc]
    simp only [pw]
    rw [ih, mm1, mm2, Int.mul_assoc]
theorem pw_sq (a : Int) (n : Nat) : pw (a * a % 2147483647) n = pw a (2 * n) := by
  induction n with
  | zero => rfl
  | succ n ih =>
    rw [show 2 * (n + 1) = 2 * n + 1 + 1 by omega]
    simp only [pw]
    rw [ih, mm2, mm1, Int.mul_assoc]
theorem power_l : ∀ (f n : Nat) (r out : Int), n ≤ f → n ≤ 4611686018427387904 → 0 ≤ r ∧ r < 2147483647 → 0 ≤ out ∧ out < 2147483647 → Ev (fun k => impl_residue_power.l0 k r (n : Int) out) (out * pw r n % 2147483647) := by
  intro f
  induction f with
  | zero =>
    intro n r out h1 h2 hr ho
    obtain rfl : n = 0 := by omega
    refine Ev.succ ?_
    simp only [impl_residue_power.l0]
    refine Ev.neg (by omega) (Ev.some ?_)
    simp only [pw, Int.mul_one]
    omega
  | succ f ih =>
    intro n r out h1 h2 hr ho
    refine Ev.succ ?_
    simp only [impl_residue_power.l0]
    by_cases h0 : n = 0
    · subst h0
      refine Ev.neg (by omega) (Ev.some ?_)
      simp only [pw, Int.mul_one]
      omega
    · refine Ev.pos (by omega) ?_
      have e2 : ((n : Int) / 2) = ((n / 2 : Nat) : Int) := by omega
      rw [and_1, e2]
      have rr := rtimes_f hr hr
      have er : md (r * r) = r * r % 2147483647 := rfl
      refine Ev.ite (fun hodd => ?_) (fun heven => ?_)
      · refine Ev.b (rtimes_f ho hr) (Ev.b rr ?_)
        have := ih (n / 2) (md (r * r)) (md (out * r)) (by omega) (by omega) (md_lt _) (md_lt _)
        rw [er, pw_sq] at this
        rw [er]
        have e3 : n = 1 + 2 * (n / 2) := by omega
        have e4 : md (out * r) * pw r (2 * (n / 2)) % 2147483647 = out * pw r n % 2147483647 := by
          conv => rhs; rw [e3, pw_add, mm2]
          unfold md
          rw [mm1]
          simp only [pw, Int.one_mul]
          rw [← Int.mul_assoc, Int.emod_eq_of_lt hr.1 hr.2]
        rw [e4] at this
        exact this
      · refine Ev.b rr ?_
        have := ih (n / 2) (md (r * r)) out (by omega) (by omega) (md_lt _) ho
        rw [er, pw_sq] at this
        rw [er]
        rw [show 2 * (n / 2) = n by omega] at this
        exact this
theorem raise_l (a : Int) (ha : 0 ≤ a ∧ a < 2147483647) : ∀ (f n : Nat), n ≤ f → n ≤ 4611686018427387904 → Ev (fun k => spec_l1Raise.f k a (n : Int)) (pw a n) := by
  intro f
  induction f with
  | zero =>
    intro n h1 h2
    obtain rfl : n = 0 := by omega
    refine Ev.succ ?_
    simp only [spec_l1Raise.f]
    exact Ev.pos (by omega) (Ev.some rfl)
  | succ f ih =>
    intro n h1 h2
    refine Ev.succ ?_
    simp only [spec_l1Raise.f]
    by_cases h0 : n = 0
    · subst h0
      exact Ev.pos (by omega) (Ev.some rfl)
    · refine Ev.neg (by omega) ?_
      rw [Int.tdiv_eq_ediv_of_nonneg (by omega), Int.tmod_eq_emod_of_nonneg (by omega), wrap_id (by omega) (by omega), show ((n : Int) / 2) = ((n / 2 : Nat) : Int) by omega]
      refine Ev.bind (ih (n / 2) (by omega) (by omega)) (Ev.b (stimes_f _ _) ?_)
      have e : md (pw a (n / 2) * pw a (n / 2)) = pw a (n / 2 + n / 2) := (pw_add a _ _).symm
      rw [e]
      refine Ev.ite (fun hodd => Ev.b (stimes_f _ _) (Ev.some ?_)) (fun heven => Ev.some ?_)
      · have e3 : n = (n / 2 + n / 2) + 1 := by omega
        conv => rhs; rw [e3]
        rfl
      · rw [show n / 2 + n / 2 = n by omega]
def inv (x : Int) : Int := pw (md x) 2147483645
theorem inv_lt (x : Int) : 0 ≤ inv x ∧ inv x < 2147483647 := pw_lt _ _
theorem sinv_ev (x : Int) : Ev (fun k => spec_Inverse.f k x) (inv x) := by
  unfold spec_Inverse.f
  exact Ev.b (smod_f x) (Ev.bind (raise_l (md x) (md_lt x) 2147483645 2147483645 (Nat.le_refl _) (by omega)) (Ev.some rfl))
theorem iinv_ev (x : Int) : Ev (fun k => impl_Inverse.f k x) (inv x) := by
  unfold impl_Inverse.f impl_residue_power.f
  refine Ev.b (ires_f x) (Ev.bind (power_l 2147483645 2147483645 (md x) 1 (Nat.le_refl _) (by omega) (md_lt x) (by omega)) (Ev.some ?_))
  have := inv_lt x
  unfold inv at *
  rw [Int.one_mul]
  omega
/-! ### the program, line by line -/
def rowL (data : List Int) (n B i j : Nat) : List Int := (List.range n).map (fun k : Nat => rd data (((i * n + k) * B + j : Nat) : Int))
theorem rowL_len (data : List Int) (n B i j : Nat) : (rowL data n B i j).length = n := by simp [rowL]
/-- The sum of the first, and the sum of the squares off a mean. -/
def psum (l : List Int) : Nat → Int
  | 0 => 0
  | m + 1 => md (psum l m + rd l (m : Int))
def psq (l : List Int) (v : Int) : Nat → Int
  | 0 => 0
  | m + 1 => md (psq l v m + md (md (rd l (m : Int) - v) * md (rd l (m : Int) - v)))
def over (x y : Int) : Int := md (x * inv y)
def mean (l : List Int) : Int := over (psum l l.length) (l.length : Int)
def vary (l : List Int) : Int := over (psq l (mean l) l.length) (l.length : Int)
def nrm (low : Int) (l : List Int) (x : Int) : Int := over (md (x - mean l)) (md (vary l + low))
theorem sover_ev (x y : Int) : Ev (fun k => spec_Over.f k x y) (over x y) := by
  unfold spec_Over.f
  exact Ev.bind (sinv_ev y) (Ev.b (stimes_f _ _) (Ev.some rfl))
theorem iover_ev (x y : Int) : Ev (fun k => impl_Over.f k x y) (over x y) := by
  unfold impl_Over.f
  exact Ev.bind (iinv_ev y) (Ev.b (itimes_f _ _) (Ev.some rfl))
/-- What stands at the place q. -/
def topAt (low : Int) (data : List Int) (n B q : Nat) : Int := nrm low (rowL data n B (q / B / n) (q % B)) (rd data (q : Int))
def done (n B i j k q : Nat) : Bool := decide (q / B / n < i) || (decide (q / B / n = i) && (decide (q % B < j) || (decide (q % B = j) && decide (q / B % n < k))))
def outs (low : Int) (data : List Int) (N n B i j k : Nat) : List Int := (List.range N).map (fun q => if done n B i j k q then topAt low data n B q else 0)
theorem outs_len (low : Int) (data : List Int) (N n B i j k : Nat) : (outs low data N n B i j k).length = N := by simp [outs]
theorem outs_step (low : Int) (data : List Int) (N n B i j k : Nat) (hk : k < n) (hj : j < B) : (outs low data N n B i j k).set ((i * n + k) * B + j) (topAt low data n B ((i * n + k) * B + j)) = outs low data N n B i j (k + 1) := by
  unfold outs
  rw [set_map]
  apply List.map_congr_left
  intro q _
  obtain ⟨c1, c2, c3⟩ := cell_of n B i k j hk hj
  by_cases e : q = (i * n + k) * B + j
  · rw [if_pos e, if_pos]
    · rw [e]
    · rw [e]
      unfold done
      rw [c1, c2, c3]
      simp
  · rw [if_neg e]
    have : done n B i j k q = done n B i j (k + 1) q := by
      unfold done
      by_cases h1 : q / B / n = i
      · by_cases h2 : q % B = j
        · have h3 : q / B % n ≠ k := by
            intro h3
            apply e
            have := cell_eq n B q
            rw [h1, h2, h3] at this
            exact this
          have : decide (q / B % n < k) = decide (q / B % n < k + 1) := by
            apply decide_eq_decide.2
            omega
          rw [this]
        · simp [h2]
      · simp [h1]
    rw [this]
theorem outs_j (low : Int) (data : List Int) (N n B i j : Nat) (hn : 0 < n) : outs low data N n B i j n = outs low data N n B i (j + 1) 0 := by
  unfold outs
  apply List.map_congr_left
  intro q _
  have h := Nat.mod_lt (q / B) hn
  have : done n B i j n q = done n B i (j + 1) 0 q := by
    unfold done
    rw [decide_eq_true h, Bool.and_true, decide_eq_false (show ¬ q / B % n < 0 by omega), Bool.and_false, Bool.or_false, ← Bool.decide_or]
    have : decide (q % B < j ∨ q % B = j) = decide (q % B < j + 1) := by
      apply decide_eq_decide.2
      omega
    rw [this]
  rw [this]
theorem outs_i (low : Int) (data : List Int) (N n B i : Nat) (hB : 0 < B) : outs low data N n B i B 0 = outs low data N n B (i + 1) 0 0 := by
  unfold outs
  apply List.map_congr_left
  intro q _
  have h := Nat.mod_lt q hB
  have : done n B i B 0 q = done n B (i + 1) 0 0 q := by
    unfold done
    rw [decide_eq_true h, Bool.true_or, Bool.and_true, decide_eq_false (show ¬ q % B < 0 by omega), decide_eq_false (show ¬ q / B % n < 0 by omega), Bool.and_false, Bool.or_false, Bool.and_false, Bool.or_false, ← Bool.decide_or]
    apply decide_eq_decide.2
    omega
  rw [this]
/-! ### the reference, place by place -/
theorem inD_take : ∀ {ds xs : List Int} (a : Nat), inD ds xs → inD (ds.take a) (xs.take a)
  | [], [], a, _ => by simp [inD]
  | d :: ds, x :: xs, 0, _ => by simp [inD]
  | d :: ds, x :: xs, a + 1, h => ⟨h.1, h.2.1, inD_take a h.2.2⟩
  | [], _ :: _, _, h => h.elim
  | _ :: _, [], _, h => h.elim
theorem inD_drop : ∀ {ds xs : List Int} (a : Nat), inD ds xs → inD (ds.drop a) (xs.drop a)
  | [], [], a, _ => by simp [inD]
  | d :: ds, x :: xs, 0, h => h
  | d :: ds, x :: xs, a + 1, h => inD_drop a h.2.2
  | [], _ :: _, _, h => h.elim
  | _ :: _, [], _, h => h.elim
theorem line_row (ds data : List Int) (a n B q : Nat) (hr : runOk 1 ds = true) (ha : a < ds.length) (hn : ds.getD a 0 = (n : Int)) (hB : prod (ds.drop (a + 1)) = (B : Int)) (hq : (q : Int) < prod ds) :
    lineOf ds data (idxs ds (q : Int)).1 a n = rowL data n B (q / B / n) (q % B) ∧ rd (idxs ds (q : Int)).1 (a : Int) = ((q / B % n : Nat) : Int) ∧ q / B % n < n := by
  have hd : ∀ d ∈ ds, 1 ≤ d := fun d hm => (run_all hr d hm).1
  have ht := (idxs_top hd (by omega : (0 : Int) ≤ (q : Int)) hq).2
  have hi := idxs_in hd (by omega : (0 : Int) ≤ (q : Int))
  have hl := idxs_len ds (q : Int)
  generalize (idxs ds (q : Int)).1 = xs at ht hi hl ⊢
  have h1 := ord_lt (fun d hm => hd d (List.mem_of_mem_take hm)) (inD_take a hi)
  have h2 := ord_lt (fun d hm => hd d (List.mem_of_mem_drop hm)) (inD_drop (a + 1) hi)
  have hxl : a < xs.length := by omega
  have h3 := inD_at hi a ha hxl
  have hx : xs.getD a 0 = xs[a] := by rw [List.getD_eq_getElem?_getD, List.getElem?_eq_getElem hxl, Option.getD_some]
  have hdd : ds.getD a 0 = ds[a] := by rw [List.getD_eq_getElem?_getD, List.getElem?_eq_getElem ha, Option.getD_some]
  have hs := ord_split a ds xs ha hl
  obtain ⟨o1, e1⟩ := Int.eq_ofNat_of_zero_le h1.1
  obtain ⟨o2, e2⟩ := Int.eq_ofNat_of_zero_le h2.1
  obtain ⟨x, e3⟩ := Int.eq_ofNat_of_zero_le h3.1
  have hv : ∀ k : Nat, ord ds (xs.set a (k : Int)) = (((o1 * n + k) * B + o2 : Nat) : Int) := by
    intro k
    rw [ord_set a ds xs ha hl, e1, e2, hn, hB]
    push_cast
    rfl
  have hq' : q = (o1 * n + x) * B + o2 := by
    rw [ht, e1, e2, hn, hB, hx, e3] at hs
    exact_mod_cast hs
  obtain ⟨c1, c2, c3⟩ := cell_of n B o1 x o2 (by omega) (by omega)
  rw [← hq'] at c1 c2 c3
  refine ⟨?_, ?_, by omega⟩
  · unfold lineOf rowL
    apply List.map_congr_left
    intro k _
    rw [hv, c1, c3]
  · rw [c2, rd, Int.toNat_natCast, hx, e3]
theorem sum_l (l : List Int) (hn : l.length ≤ 4096) : ∀ (d i : Nat), l.length - i = d → i ≤ l.length → Ev (fun K => spec_l5Sum.l0 K l (psum l i) (i : Int)) (psum l l.length) := by
  intro d
  induction d with
  | zero =>
    intro i hd hi
    refine Ev.succ ?_
    simp only [spec_l5Sum.l0]
    rw [show i = l.length by omega]
    exact Ev.neg (by omega) (Ev.some rfl)
  | succ d ih =>
    intro i hd hi
    have hlt : i < l.length := by omega
    refine Ev.succ ?_
    simp only [spec_l5Sum.l0]
    rw [up i hlt (by omega)]
    exact Ev.pos (by omega) (Ev.pos (by omega) (Ev.b (splus_f _ _) (ih (i + 1) (by omega) (by omega))))
theorem nrm_l1 (low : Int) (a q n : Nat) (L ds data od oo : List Int) (r : List Int × List Int) (hL : L.length = n) (hn : n ≤ 4096) (hq : q < data.length) (hqo : q < oo.length)
    (h : Ev (fun K => spec_Normalise.l0 K (a : Int) low (wrap64 ((q : Int) + 1)) ds data od (oo.set q (nrm low L (rd data (q : Int))))) r) :
    ∀ (d k : Nat), n - k = d → k ≤ n → Ev (fun K => spec_Normalise.l1 K (a : Int) low (q : Int) L (mean L) (psq L (mean L) k) (k : Int) ds data od oo) r := by
  intro d
  induction d with
  | zero =>
    intro k hd hk'
    refine Ev.succ ?_
    simp only [spec_Normalise.l1]
    rw [Int.toNat_natCast, show k = L.length by omega]
    refine Ev.neg (by omega) (Ev.pos (by omega) (Ev.pos (by omega) (Ev.b (sminus_f _ _) (Ev.bind (sover_ev _ _) (Ev.b (splus_f _ _) (Ev.bind (sover_ev _ _) (Ev.pos (by omega) ?_)))))))
    exact h
  | succ d ih =>
    intro k hd hk'
    refine Ev.succ ?_
    simp only [spec_Normalise.l1]
    rw [up k (show k < n by omega) (by omega)]
    refine Ev.pos (by omega) (Ev.pos (by omega) (Ev.b (sminus_f _ _) (Ev.b (sminus_f _ _) (Ev.b (stimes_f _ _) (Ev.b (splus_f _ _) ?_)))))
    exact ih (k + 1) (by omega) (by omega)
def tops (low : Int) (data : List Int) (n B : Nat) : List Int := (List.range data.length).map (topAt low data n B)
theorem tops_len (low : Int) (data : List Int) (n B : Nat) : (tops low data n B).length = data.length := by simp [tops]
theorem tops_at (low : Int) (data : List Int) (n B q : Nat) (h : q < (tops low data n B).length) : (tops low data n B)[q] = topAt low data n B q := by simp [tops]
theorem spec_l0 (low : Int) (ds data : List Int) (a n B : Nat) (hl6 : ds.length ≤ 6) (hr : runOk 1 ds = true) (ha : a < ds.length) (hn : ds.getD a 0 = (n : Int)) (hB : prod (ds.drop (a + 1)) = (B : Int)) (hd : (data.length : Int) = prod ds) :
    ∀ (d q : Nat), data.length - q = d → q ≤ data.length → Ev (fun K => spec_Normalise.l0 K (a : Int) low (q : Int) ds data ds ((tops low data n B).take q ++ List.replicate (data.length - q) 0)) (ds, tops low data n B) := by
  have hds : ∀ d ∈ ds, 1 ≤ d := fun d hm => (run_all hr d hm).1
  have hN := prod_le hr 0
  rw [List.drop_zero] at hN
  have hn4 : n ≤ 4096 := by
    have h := run_all hr _ (List.getElem_mem ha)
    rw [List.getD_eq_getElem?_getD, List.getElem?_eq_getElem ha, Option.getD_some] at hn
    omega
  intro d
  induction d with
  | zero =>
    intro q hd' hq
    refine Ev.succ ?_
    simp only [spec_Normalise.l0]
    refine Ev.neg (by omega) (Ev.some ?_)
    rw [List.take_of_length_le (by rw [tops_len]; omega), show data.length - q = 0 by omega]
    simp
  | succ d ih =>
    intro q hd' hq
    have hlt : q < data.length := by omega
    have hlw : q < (tops low data n B).length := by rw [tops_len]; exact hlt
    obtain ⟨r1, r2, r3⟩ := line_row ds data a n B q hr ha hn hB (by omega)
    have hi := idxs_in hds (by omega : (0 : Int) ≤ (q : Int))
    have hxl := idxs_len ds (q : Int)
    refine Ev.succ ?_
    simp only [spec_Normalise.l0]
    have le := line_ev ds data _ a n hl6 hxl hr hi hd ha hn
    rw [r1] at le
    refine Ev.pos (by omega) (Ev.bind (index_ev ds hl6 hds (q : Int) (by omega) (by omega)) (Ev.bind le ?_))
    have st : (tops low data n B).take (q + 1) ++ List.replicate (data.length - (q + 1)) 0 = ((tops low data n B).take q ++ List.replicate (data.length - q) 0).set q (topAt low data n B q) := by
      have := set_fill hlw (z := (0 : Int))
      rw [tops_at, tops_len] at this
      exact this.symm
    have ih := ih (q + 1) (by omega) (by omega)
    rw [st] at ih
    have := nrm_l1 low a q n _ ds data ds ((tops low data n B).take q ++ List.replicate (data.length - q) 0) _ (rowL_len data n B (q / B / n) (q % B)) hn4 hlt (by rw [List.length_append, List.length_take, List.length_replicate, tops_len]; omega) (by rw [up q hlt (by omega)]; exact ih) n 0 (by omega) (by omega)
    have sm := sum_l (rowL data n B (q / B / n) (q % B)) (by rw [rowL_len]; exact hn4) n 0 (by rw [rowL_len]; omega) (by omega)
    refine Ev.bind (a := psum (rowL data n B (q / B / n) (q % B)) (rowL data n B (q / B / n) (q % B)).length) ?_ (Ev.bind (sover_ev _ _) ?_)
    · unfold spec_l5Sum.f
      exact sm
    exact this
/-! ### the program's loops -/
def nrms (low : Int) (l : List Int) : List Int := l.map (nrm low l)
theorem nrms_len (low : Int) (l : List Int) : (nrms low l).length = l.length := by simp [nrms]
theorem nsum (l : List Int) (hn : l.length ≤ 4096) : ∀ (d i : Nat), l.length - i = d → i ≤ l.length → Ev (fun K => sumF K l (psum l i) (i : Int)) (psum l l.length) := by
  intro d
  induction d with
  | zero =>
    intro i hd hi
    refine Ev.succ ?_
    simp only [sumF]
    rw [show i = l.length by omega]
    exact Ev.neg (by omega) (Ev.some rfl)
  | succ d ih =>
    intro i hd hi
    have hlt : i < l.length := by omega
    refine Ev.succ ?_
    simp only [sumF]
    rw [up i hlt (by omega)]
    exact Ev.pos (by omega) (Ev.pos (by omega) (Ev.b (iplus_f _ _) (ih (i + 1) (by omega) (by omega))))
theorem nsq (l : List Int) (v : Int) (hn : l.length ≤ 4096) : ∀ (d i : Nat), l.length - i = d → i ≤ l.length → Ev (fun K => sqF K l v (psq l v i) (i : Int)) (psq l v l.length) := by
  intro d
  induction d with
  | zero =>
    intro i hd hi
    refine Ev.succ ?_
    simp only [sqF]
    rw [show i = l.length by omega]
    exact Ev.neg (by omega) (Ev.some rfl)
  | succ d ih =>
    intro i hd hi
    have hlt : i < l.length := by omega
    refine Ev.succ ?_
    simp only [sqF]
    rw [up i hlt (by omega)]
    exact Ev.pos (by omega) (Ev.pos (by omega) (Ev.b (iminus_f _ _) (Ev.b (itimes_f _ _) (Ev.b (iplus_f _ _) (ih (i + 1) (by omega) (by omega))))))
theorem nmap (F : Nat → Int → Option Int) (g : Int → Int) (hg : ∀ x, Ev (fun k => F k x) (g x)) (dt : List Int) (hn : dt.length ≤ 1048576) : ∀ (d i : Nat), dt.length - i = d → i ≤ dt.length → Ev (fun k => mapF F k dt ((dt.map g).take i ++ List.replicate (dt.length - i) 0) (i : Int)) (dt.map g) := by
  intro d
  induction d with
  | zero =>
    intro i hd hi
    refine Ev.succ ?_
    simp only [mapF]
    refine Ev.neg (by omega) (Ev.some ?_)
    rw [hd, List.take_of_length_le (by simp; omega)]
    simp
  | succ d ih =>
    intro i hd hi
    have hlt : i < dt.length := by omega
    refine Ev.succ ?_
    simp only [mapF]
    rw [rd_at hlt]
    refine Ev.pos (by omega) (Ev.pos (by omega) (Ev.pos (by simp; omega) (Ev.bind (hg _) ?_)))
    have hm : i < (dt.map g).length := by simpa using hlt
    have e := set_fill (L := dt.map g) (z := (0 : Int)) hm
    rw [List.length_map, List.getElem_map] at e
    rw [Int.toNat_natCast, e, up i hlt (by omega)]
    exact ih (i + 1) (by omega) (by omega)
theorem md_low (v low : Int) : md (v + md low) = md (v + low) := by
  unfold md
  omega
theorem topOf_ev (low : Int) (l : List Int) (hn : l.length ≤ 4096) : Ev (fun k => impl_Normalise_1.f k l low) (nrms low l) := by
  unfold impl_Normalise_1.f
  refine Ev.pos (by omega) (Ev.bind (nsum l hn l.length 0 (by omega) (by omega)) (Ev.bind (iover_ev _ _) (Ev.bind (nsq l (mean l) hn l.length 0 (by omega) (by omega)) (Ev.bind (iover_ev _ _) (Ev.b (imod_f low) (Ev.b (iplus_f _ _) (Ev.bind (iinv_ev _) ?_)))))))
  have := nmap (nrmF (mean l) (inv (md (vary l + md low)))) (nrm low l) (fun x => by
    unfold nrmF
    refine Ev.b (iminus_f x (mean l)) (Ev.k ?_)
    rw [itimes_f, md_low]
    rfl) l (by omega) l.length 0 (by omega) (by omega)
  rw [List.take_zero, List.nil_append, Nat.sub_zero] at this
  exact this
theorem cell_lt {A n B i k j : Nat} (hi : i < A) (hk : k < n) (hj : j < B) : (i * n + k) * B + j < A * n * B ∧ i * n + k < A * n := by
  have h1 : (i + 1) * n ≤ A * n := Nat.mul_le_mul_right n hi
  rw [Nat.add_mul, Nat.one_mul] at h1
  have h2 : (i * n + k + 1) * B ≤ A * n * B := Nat.mul_le_mul_right B (by omega)
  rw [Nat.add_mul, Nat.one_mul] at h2
  omega
theorem at_cell {A n B i k j : Nat} (hi : i < A) (hk : k < n) (hj : j < B) (hN : A * n * B ≤ 4096) : wrap64 (wrap64 (wrap64 (wrap64 ((i : Int) * (n : Int)) + (k : Int)) * (B : Int)) + (j : Int)) = (((i * n + k) * B + j : Nat) : Int) := by
  obtain ⟨h, h'⟩ := cell_lt hi hk hj
  have w : ∀ z : Nat, z ≤ 4096 → wrap64 (z : Int) = z := fun z hz => wrap_id (by omega) (by omega)
  have m : (i * n + k) * 1 ≤ (i * n + k) * B := Nat.mul_le_mul_left _ (by omega)
  have h4 : (i * n + k) * B + j ≤ 4096 := by omega
  have h3 : (i * n + k) * B ≤ 4096 := by omega
  have h2 : i * n + k ≤ 4096 := by omega
  have h1 : i * n ≤ 4096 := by omega
  have e1 : (i : Int) * (n : Int) = ((i * n : Nat) : Int) := by push_cast; rfl
  have e2 : ((i * n : Nat) : Int) + (k : Int) = ((i * n + k : Nat) : Int) := by push_cast; rfl
  have e3 : ((i * n + k : Nat) : Int) * (B : Int) = (((i * n + k) * B : Nat) : Int) := by push_cast; rfl
  have e4 : (((i * n + k) * B : Nat) : Int) + (j : Int) = (((i * n + k) * B + j : Nat) : Int) := by push_cast; rfl
  rw [e1, w _ h1, e2, w _ h2, e3, w _ h3, e4, w _ h4]
theorem l2_ev (low : Int) (A n B i j : Nat) (ds data od oo old : List Int) (r : List Int × List Int) (hi : i < A) (hj : j < B) (hN : A * n * B ≤ 4096) (hd : data.length = A * n * B) (ho : old.length = n) (hn4 : n ≤ 4096)
    (h : Ev (fun K => (impl_Normalise_1.f K (rowL data n B i j) low).bind fun t => impl_byLines.l3 K low (A : Int) (n : Int) (B : Int) (rowL data n B i j) (i : Int) (j : Int) t (t.length : Int) 0 ds data od oo) r) :
    ∀ (d k : Nat), n - k = d → k ≤ n → Ev (fun K => impl_byLines.l2 K low (A : Int) (n : Int) (B : Int) ((rowL data n B i j).take k ++ old.drop k) (i : Int) (j : Int) (n : Int) (k : Int) ds data od oo) r := by
  intro d
  induction d with
  | zero =>
    intro k hd' hk
    refine Ev.succ ?_
    simp only [impl_byLines.l2]
    rw [List.take_of_length_le (by rw [rowL_len]; omega), List.drop_eq_nil_of_le (by omega), List.append_nil]
    exact Ev.neg (by omega) h
  | succ d ih =>
    intro k hd' hk
    have hk' : k < n := by omega
    have hc := cell_lt hi hk' hj
    have hl : k < (rowL data n B i j).length := by rw [rowL_len]; exact hk'
    refine Ev.succ ?_
    simp only [impl_byLines.l2]
    rw [at_cell hi hk' hj hN]
    refine Ev.pos (by omega) (Ev.pos (by omega) (Ev.pos (by omega) (Ev.pos (by omega) (Ev.pos (by rw [List.length_append, List.length_take, List.length_drop, rowL_len]; omega) ?_))))
    have o := set_over hl (l := old) (by rw [rowL_len]; exact ho)
    have e : (rowL data n B i j)[k] = rd data (((i * n + k) * B + j : Nat) : Int) := by simp [rowL]
    rw [e] at o
    rw [Int.toNat_natCast, o, up k hk' (by omega)]
    exact ih (k + 1) (by omega) (by omega)
theorem best_row (low : Int) (data : List Int) (n B i k j : Nat) (hk : k < n) (hj : j < B) : rd (nrms low (rowL data n B i j)) (k : Int) = topAt low data n B ((i * n + k) * B + j) := by
  obtain ⟨c1, c2, c3⟩ := cell_of n B i k j hk hj
  have hk' : k < (rowL data n B i j).length := by rw [rowL_len]; exact hk
  rw [rd_at (by rw [nrms_len]; exact hk')]
  unfold topAt nrms
  rw [c1, c3, List.getElem_map]
  congr 1
  simp [rowL]
theorem l3_ev (low : Int) (A n B i j : Nat) (ds data od line t : List Int) (N : Nat) (r : List Int × List Int) (hi : i < A) (hj : j < B) (hN : A * n * B ≤ 4096) (hNN : N = A * n * B) (hn4 : n ≤ 4096) (ht : t.length = n) (hB4 : B ≤ 4096) (h0 : 0 < n)
    (hv : ∀ k : Nat, k < n → rd t (k : Int) = topAt low data n B ((i * n + k) * B + j))
    (h : Ev (fun K => impl_byLines.l1 K low (A : Int) (n : Int) (B : Int) line (i : Int) ((j + 1 : Nat) : Int) ds data od (outs low data N n B i (j + 1) 0)) r) :
    ∀ (d k : Nat), n - k = d → k ≤ n → Ev (fun K => impl_byLines.l3 K low (A : Int) (n : Int) (B : Int) line (i : Int) (j : Int) t (n : Int) (k : Int) ds data od (outs low data N n B i j k)) r := by
  intro d
  induction d with
  | zero =>
    intro k hd' hk
    refine Ev.succ ?_
    simp only [impl_byLines.l3]
    rw [up j hj (by omega), show k = n by omega, outs_j low data N n B i j h0]
    exact Ev.neg (by omega) h
  | succ d ih =>
    intro k hd' hk
    have hk' : k < n := by omega
    have hc := cell_lt hi hk' hj
    refine Ev.succ ?_
    simp only [impl_byLines.l3]
    rw [at_cell hi hk' hj hN]
    refine Ev.pos (by omega) (Ev.pos (by omega) (Ev.pos (by omega) (Ev.pos (by omega) (Ev.pos (by rw [outs_len]; omega) ?_))))
    rw [Int.toNat_natCast, hv k hk', outs_step low data N n B i j k hk' hj, up k hk' (by omega)]
    exact ih (k + 1) (by omega) (by omega)
theorem l1_ev (low : Int) (A n B i : Nat) (ds data od : List Int) (N : Nat) (r : List Int × List Int) (hi : i < A) (hN : A * n * B ≤ 4096) (hNN : N = A * n * B) (hd : data.length = A * n * B) (hn4 : n ≤ 4096) (hB4 : B ≤ 4096) (hA4 : A ≤ 4096) (h0 : 0 < n) (hB0 : 0 < B) 
    (h : ∀ line : List Int, line.length = n → Ev (fun K => impl_byLines.l0 K low (A : Int) (n : Int) (B : Int) line ((i + 1 : Nat) : Int) ds data od (outs low data N n B (i + 1) 0 0)) r) :
    ∀ (d j : Nat) (line : List Int), line.length = n → B - j = d → j ≤ B → Ev (fun K => impl_byLines.l1 K low (A : Int) (n : Int) (B : Int) line (i : Int) (j : Int) ds data od (outs low data N n B i j 0)) r := by
  intro d
  induction d with
  | zero =>
    intro j line hl hd' hj
    refine Ev.succ ?_
    simp only [impl_byLines.l1]
    rw [up i hi (by omega), show j = B by omega, outs_i low data N n B i hB0]
    exact Ev.neg (by omega) (h line hl)
  | succ d ih =>
    intro j line hl hd' hj
    have hj' : j < B := by omega
    refine Ev.succ ?_
    simp only [impl_byLines.l1]
    rw [hl]
    refine Ev.pos (by omega) ?_
    have := l2_ev low A n B i j ds data od (outs low data N n B i j 0) line r hi hj' hN hd hl hn4 ?_ n 0 (by omega) (by omega)
    · rw [List.take_zero, List.drop_zero, List.nil_append] at this
      exact this
    · refine Ev.bind (topOf_ev low _ (by rw [rowL_len]; exact hn4)) ?_
      have tl : (nrms low (rowL data n B i j)).length = n := by rw [nrms_len, rowL_len]
      rw [tl]
      exact l3_ev low A n B i j ds data od _ _ N r hi hj' hN hNN hn4 tl hB4 h0 (fun k hk => best_row low data n B i k j hk hj') (ih (j + 1) _ (rowL_len ..) (by omega) (by omega)) n 0 (by omega) (by omega)
theorem l0_ev (low : Int) (A n B : Nat) (ds data : List Int) (hN : A * n * B ≤ 4096) (hd : data.length = A * n * B) (hn4 : n ≤ 4096) (hB4 : B ≤ 4096) (hA4 : A ≤ 4096) (h0 : 0 < n) (hB0 : 0 < B) :
    ∀ (d i : Nat) (line : List Int), line.length = n → A - i = d → i ≤ A → Ev (fun K => impl_byLines.l0 K low (A : Int) (n : Int) (B : Int) line (i : Int) ds data ds (outs low data (A * n * B) n B i 0 0)) (ds, tops low data n B) := by
  intro d
  induction d with
  | zero =>
    intro i line hl hd' hi
    refine Ev.succ ?_
    simp only [impl_byLines.l0]
    refine Ev.neg (by omega) (Ev.some ?_)
    congr 1
    unfold outs tops
    rw [hd]
    apply List.map_congr_left
    intro q hq
    rw [List.mem_range] at hq
    have : q / B / n < i := by
      rw [Nat.div_lt_iff_lt_mul h0, Nat.div_lt_iff_lt_mul hB0, show i = A by omega]
      exact hq
    unfold done
    rw [decide_eq_true this, Bool.true_or, if_pos rfl]
  | succ d ih =>
    intro i line hl hd' hi
    refine Ev.succ ?_
    simp only [impl_byLines.l0]
    refine Ev.pos (by omega) ?_
    exact l1_ev low A n B i ds data ds _ _ (by omega) hN rfl hd hn4 hB4 hA4 h0 hB0 (fun line hl => ih (i + 1) line hl (by omega) (by omega)) B 0 line hl (by omega) (by omega)
theorem outs_0 (low : Int) (data : List Int) (N n B : Nat) : outs low data N n B 0 0 0 = List.replicate N 0 := by
  apply List.ext_getElem (by simp [outs])
  intro q h1 h2
  simp [outs, done]
theorem isAxis_f (ds : List Int) (a : Int) : impl_isAxis.f ds a = some (decide (0 ≤ a) && decide (a < (ds.length : Int))) := by
  unfold impl_isAxis.f
  split
  · next h => rw [decide_eq_true (show 0 ≤ a by omega), Bool.true_and]
  · next h => rw [decide_eq_false (show ¬ 0 ≤ a by omega), Bool.false_and]
theorem axis_ev (ds data : List Int) (a : Int) (h1 : ds.length ≤ 1048576) (h2 : data.length ≤ 1048576) : Ev (fun k => spec_l4Axis.f k ds data a) (tensB ds data && (decide (0 ≤ a) && decide (a < (ds.length : Int)))) := by
  unfold spec_l4Axis.f
  refine Ev.bind (stens_ev ds data (by omega) (by omega)) ?_
  cases tensB ds data with
  | false => exact Ev.neg (by simp) (Ev.some rfl)
  | true =>
    refine Ev.pos rfl (Ev.ite (fun h => Ev.some ?_) (fun h => Ev.some ?_))
    · rw [decide_eq_true (show 0 ≤ a by omega)]
      rfl
    · rw [decide_eq_false (show ¬ 0 ≤ a by omega)]
      rfl
theorem top_ev (ds data : List Int) (a low : Int) (h1 : ds.length ≤ 1048576) (h2 : data.length ≤ 1048576) : ∃ x y, Ev (fun k => spec_Normalise.f k ds data a low) (x, y) ∧ Ev (fun k => impl_Normalise.f k ds data a low) (x, y) ∧ x.length ≤ 1048576 ∧ y.length ≤ 1048576 := by
  unfold spec_Normalise.f impl_Normalise.f impl_byLines.f
  have s := axis_ev ds data a h1 h2
  have t := itens_ev ds data (by omega) (by omega)
  cases ht : tensB ds data with
  | false =>
    rw [ht] at s t
    refine ⟨[], [], Ev.bind s (Ev.neg (by simp) (Ev.some rfl)), Ev.bind (a := (([] : List Int), ([] : List Int))) (Ev.bind t (Ev.neg (by simp) (Ev.succ ?_))) (Ev.some rfl), by simp, by simp⟩
    simp only [impl_byLines.j0]
    exact Ev.pos (by trivial) (Ev.some rfl)
  | true =>
    cases hx : (decide (0 ≤ a) && decide (a < (ds.length : Int))) with
    | false =>
      rw [ht, hx] at s
      rw [ht] at t
      refine ⟨[], [], Ev.bind s (Ev.neg (by simp) (Ev.some rfl)), Ev.bind (a := (([] : List Int), ([] : List Int))) (Ev.bind t (Ev.pos rfl (Ev.b (isAxis_f ds a) (Ev.succ ?_)))) (Ev.some rfl), by simp, by simp⟩
      simp only [impl_byLines.j0]
      rw [hx]
      exact Ev.pos (by trivial) (Ev.some rfl)
    | true =>
      rw [ht, hx] at s
      rw [ht] at t
      have hx' := hx
      simp only [Bool.and_eq_true, decide_eq_true_eq] at hx'
      unfold tensB dimsB at ht
      simp only [Bool.and_eq_true, decide_eq_true_eq] at ht
      obtain ⟨⟨hl6, hr⟩, hd, hnum⟩ := ht
      obtain ⟨b, rfl⟩ := Int.eq_ofNat_of_zero_le hx'.1
      have ha : b < ds.length := by omega
      have p := prod_le hr 0
      rw [List.drop_zero] at p
      have e := size_ev ds (by omega)
      rw [if_pos hr] at e
      have q := product_ev ds (by omega) hr
      have dd := idims_ev ds (by omega)
      rw [show dimsB ds = true by unfold dimsB; rw [decide_eq_true hl6, hr]; rfl] at dd
      have hrun := run_all hr
      have hdd : ds.getD b 0 = ds[b] := by rw [List.getD_eq_getElem?_getD, List.getElem?_eq_getElem ha, Option.getD_some]
      have hdb := hrun _ (List.getElem_mem ha)
      have pt := prod_pos (run_take b hr)
      have pB := prod_le hr (b + 1)
      obtain ⟨A, eA⟩ := Int.eq_ofNat_of_zero_le (by omega : 0 ≤ prod (ds.take b))
      obtain ⟨B, eB⟩ := Int.eq_ofNat_of_zero_le (by omega : 0 ≤ prod (ds.drop (b + 1)))
      obtain ⟨n, en⟩ := Int.eq_ofNat_of_zero_le (by omega : 0 ≤ ds.getD b 0)
      have sp := prod_split b ds ha
      rw [eA, eB, en] at sp
      have hN : data.length = A * n * B := by
        rw [sp] at hd
        exact_mod_cast hd
      have hA0 : 1 ≤ A := by omega
      have hB0 : 1 ≤ B := by omega
      have hn0 : 1 ≤ n := by omega
      have k1 : A * 1 ≤ A * n := Nat.mul_le_mul_left _ hn0
      have k2 : A * n * 1 ≤ A * n * B := Nat.mul_le_mul_left _ hB0
      refine ⟨ds, tops low data n B, Ev.bind s (Ev.pos rfl (Ev.bind (a := (ds, List.replicate (prod ds).toNat 0)) ?_ ?_)), Ev.bind (a := (ds, tops low data n B)) (Ev.bind t (Ev.pos rfl (Ev.b (isAxis_f ds b) (Ev.succ ?_)))) (Ev.some rfl), h1, by rw [tops_len]; exact h2⟩
      · unfold spec_l4New.f
        exact Ev.b (l3Ints_f ds (by omega)) (Ev.bind e (Ev.pos (by omega) (Ev.pos (by omega) (Ev.some rfl))))
      · have := spec_l0 low ds data b n B hl6 hr ha en eB hd data.length 0 (by omega) (by omega)
        rw [List.take_zero, List.nil_append, Nat.sub_zero] at this
        rw [show (prod ds).toNat = data.length by omega]
        exact this
      · simp only [impl_byLines.j0]
        rw [hx]
        refine Ev.neg (by simp) (Ev.bind (a := (ds, List.replicate (prod ds).toNat 0)) ?_ (Ev.bind (lines_ev ds b hl6 hr ha) (Ev.pos (by dsimp only; omega) (Ev.pos (by dsimp only; omega) ?_))))
        · unfold impl_blank.f
          exact Ev.bind dd (Ev.pos rfl (Ev.b (clone_f ds (by omega)) (Ev.bind q (Ev.pos (by omega) (Ev.pos (by omega) (Ev.some rfl))))))
        · have := l0_ev low A n B ds data (by omega) hN (by omega) (by omega) (by omega) (by omega) (by omega) A 0 (List.replicate n 0) (by simp) (by omega) (by omega)
          rw [outs_0, ← hN] at this
          rw [eA, eB, en, Int.toNat_natCast, show (prod ds).toNat = data.length by omega]
          exact this
theorem rest (l0 l1 : List Int) (a low : Int) (x y : List Int) (h0 : l0.length ≤ 1048576) (h1 : l1.length ≤ 1048576) (hx : x.length ≤ 1048576) (hy : y.length ≤ 1048576) (hi : Ev (fun k => impl_Normalise.f k l0 l1 a low) (x, y)) : Ev (fun k => laws_FnExactNormalise.j0 k a low false l0 l1 x y x y) true := by
  have m := markTensor_ev x y hx hy
  have h : Ev (fun k => laws_heldTensor.f k (ups 1 x.length) (ups (1 + (x.length : Int)) y.length) 1) (1 + (x.length : Int) + y.length) := by
    unfold laws_heldTensor.f
    exact Ev.bind (held_ev x.length 1 (by omega) (by omega)) (Ev.neg (by omega) (Ev.bind (held_ev y.length _ (by omega) (by omega)) (Ev.neg (by omega) (Ev.some rfl))))
  refine Ev.succ ?_
  simp only [laws_FnExactNormalise.j0]
  exact Ev.neg (by simp) (Ev.bind m (Ev.bind h (Ev.neg (by omega) (Ev.pos rfl (Ev.bind (toTensor_ev l0 l1 h0 h1) (Ev.bind hi (Ev.bind (eqTensor_ev x y hx hy) (Ev.pos rfl (Ev.bind h (Ev.neg (by omega) (Ev.pos rfl (Ev.some rfl))))))))))))
theorem FnExactNormalise (l0 l1 : List Int) (a low : Int) {p q : Int → Prop} (hg : (l0.length ≤ maxLen ∧ ∀ y ∈ l0, p y) ∧ (l1.length ≤ maxLen ∧ ∀ y ∈ l1, q y)) : ∃ k, laws_FnExactNormalise.f k l0 l1 a low = some true := by
  have h0 : l0.length ≤ 9223372036854775807 := hg.1.1
  have h1 : l1.length ≤ 9223372036854775807 := hg.2.1
  apply Ev.rounds
  unfold laws_FnExactNormalise.f
  obtain ⟨q, hq, hz⟩ := szTensor_f l0 l1 h0 h1
  refine Ev.b hq ?_
  rcases hz with hz | ⟨hz, g0, g1⟩
  · exact Ev.pos hz (Ev.some rfl)
  refine Ev.neg (by omega) ?_
  have t := toTensor_ev l0 l1 g0 g1
  obtain ⟨x, y, hs, hi, hx, hy⟩ := top_ev l0 l1 a low g0 g1
  refine Ev.bind t (Ev.bind hs (Ev.bind t (Ev.bind hi (Ev.bind (eqTensor_ev x y hx hy) (Ev.pos rfl (Ev.bind t (Ev.bind (eqTensor_ev l0 l1 g0 g1) (Ev.pos rfl (Ev.bind (markTensor_ev l0 l1 g0 g1) (Ev.neg (by simp; omega) (Ev.bind (eqTensor_ev x y hx hy) ?_)))))))))))
  exact rest l0 l1 a low x y g0 g1 hx hy hi
end Go.Proofs.Ytcpemdedmepfead.PureFnExactNormalise
