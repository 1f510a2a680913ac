/- The pure statement of FnExactScatter: program and reference scatter the same tensor along an axis. -/
import Derived.Test.YtcpemdedmepfeabPFnExactScatterx
import Derived.Test.YtcpemdedmepfeabBase
import Derived.Test.YtcpemdedmepfeabVM
namespace Go.Proofs.Ytcpemdedmepfeab.PureFnExactScatter
set_option linter.unusedVariables false
set_option linter.unusedSimpArgs false
open Go.RowKit Go.Proofs.Ytcpemdedmepfeab.PFnExactScatter Go.Proofs.YtcpemdedmepfeabW.PrintWords Go.Proofs.YtcpemdedmepfeabW.PrintLast Go.Proofs.YtcpemdedmepfeabW.PrintMore Go.Proofs.Ytcpemdedmepfeab.Base Go.Proofs.Ytcpemdedmepfeab.VM
/-! ### lists of whole numbers taken over and held against each other -/
theorem toIntS_l (l : List Int) (hn : l.length ≤ 9223372036854775807) : ∀ (d i : Nat), l.length - i = d → i ≤ l.length → Ev (fun k => laws_toIntS.l0 k l (l.take i ++ List.replicate (l.length - i) 0) (i : Int)) l := by
  intro d
  induction d with
  | zero =>
    intro i hd hi
    refine Ev.succ ?_
    simp only [laws_toIntS.l0]
    refine Ev.neg (by omega) (Ev.some ?_)
    rw [hd, List.take_of_length_le (by omega)]
    simp
  | succ d ih =>
    intro i hd hi
    refine Ev.succ ?_
    simp only [laws_toIntS.l0]
    have hlt : i < l.length := by omega
    refine Ev.pos (by omega) (Ev.pos (by omega) (Ev.pos (by simp; omega) ?_))
    rw [rd_at hlt, up i hlt hn, Int.toNat_natCast, set_copy hlt]
    exact ih (i + 1) (by omega) (by omega)
theorem toIntS_ev (l : List Int) (h : l.length ≤ 35184372088832) : Ev (fun k => laws_toIntS.f k l) l := by
  unfold laws_toIntS.f
  refine Ev.pos (by omega) (Ev.pos (by omega) ?_)
  have := toIntS_l l (by omega) l.length 0 (by omega) (by omega)
  simpa using this
theorem eqIntS_l (l : List Int) (hn : l.length ≤ 9223372036854775807) : ∀ (d i : Nat), l.length - i = d → i ≤ l.length → Ev (fun k => laws_eqIntS.l0 k l l (i : Int)) true := by
  intro d
  induction d with
  | zero =>
    intro i hd hi
    refine Ev.succ ?_
    simp only [laws_eqIntS.l0]
    exact Ev.neg (by omega) (Ev.some rfl)
  | succ d ih =>
    intro i hd hi
    refine Ev.succ ?_
    simp only [laws_eqIntS.l0]
    have hlt : i < l.length := by omega
    refine Ev.pos (by omega) (Ev.pos (by omega) (Ev.pos (by omega) (Ev.pos (by trivial) ?_)))
    rw [up i hlt hn]
    exact ih (i + 1) (by omega) (by omega)
theorem eqIntS_ev (l : List Int) (h : l.length ≤ 9223372036854775807) : Ev (fun k => laws_eqIntS.f k l l) true := by
  unfold laws_eqIntS.f
  exact Ev.pos rfl (eqIntS_l l (by omega) l.length 0 (by omega) (by omega))
/-! ### lengths -/
theorem size_l (l : List Int) (hn : l.length ≤ 9223372036854775807) : ∀ (d i : Nat) (n : Int), l.length - i = d → i ≤ l.length → 1 ≤ n → n ≤ 4096 → Ev (fun k => spec_l3Size.l0 k l n (i : Int)) (if runOk n (l.drop i) = true then n * prod (l.drop i) else 0) := by
  intro d
  induction d with
  | zero =>
    intro i n hd hi h0 h1
    refine Ev.succ ?_
    simp only [spec_l3Size.l0]
    refine Ev.neg (by omega) (Ev.some ?_)
    rw [List.drop_eq_nil_of_le (by omega)]
    simp [runOk, prod]
  | succ d ih =>
    intro i n hd hi h0 h1
    have hlt : i < l.length := by omega
    refine Ev.succ ?_
    simp only [spec_l3Size.l0]
    refine Ev.pos (by omega) (Ev.pos (by omega) ?_)
    rw [rd_at hlt, drop_at hlt]
    refine Ev.ite (fun h => Ev.succ ?_) (fun h => Ev.succ ?_)
    · simp only [spec_l3Size.j1]
      refine Ev.pos (by trivial) (Ev.some ?_)
      simp [runOk, h]
    · simp only [spec_l3Size.j1]
      by_cases h2 : 4096 < l[i]
      · refine Ev.pos (by simpa using h2) (Ev.some ?_)
        simp [runOk, h, h2]
      · have p1 : n * l[i] ≤ 4096 * 4096 := Int.mul_le_mul h1 (by omega) (by omega) (by omega)
        have p0 : 1 * 1 ≤ n * l[i] := Int.mul_le_mul h0 (by omega) (by omega) (by omega)
        refine Ev.neg (by simpa using h2) (Ev.pos (by omega) (Ev.pos (by omega) ?_))
        rw [rd_at hlt, wrap_id (by omega : -9223372036854775808 ≤ n * l[i]) (by omega), up i hlt hn]
        refine Ev.ite (fun h3 => Ev.some ?_) (fun h3 => ?_)
        · simp [runOk, h, h2, show 4096 < n * l[i] from h3]
        · have e : runOk n (l[i] :: l.drop (i + 1)) = runOk (n * l[i]) (l.drop (i + 1)) := by
            simp [runOk, h, h2, show ¬ 4096 < n * l[i] from h3]
          rw [e]
          simp only [prod]
          rw [← Int.mul_assoc]
          exact ih (i + 1) _ (by omega) (by omega) (by omega) (by omega)
theorem size_ev (l : List Int) (hn : l.length ≤ 9223372036854775807) : Ev (fun k => spec_l3Size.f k l) (if runOk 1 l = true then prod l else 0) := by
  have := size_l l hn l.length 0 1 (by omega) (by omega) (by omega) (by omega)
  rw [Int.one_mul] at this
  exact this
/-- Lengths that can be. -/
def dimsB (l : List Int) : Bool := decide (l.length ≤ 6) && runOk 1 l
theorem sdims_ev (l : List Int) (hn : l.length ≤ 9223372036854775807) : Ev (fun k => spec_DimsOk.f k l) (dimsB l) := by
  unfold spec_DimsOk.f dimsB
  refine Ev.ite (fun h => Ev.bind (size_ev l hn) (Ev.some ?_)) (fun h => Ev.some ?_)
  · rw [show decide (l.length ≤ 6) = true from decide_eq_true (by omega), Bool.true_and]
    cases hr : runOk 1 l with
    | true =>
      have := prod_pos hr
      simp
      omega
    | false => simp
  · rw [show decide (l.length ≤ 6) = false from decide_eq_false (by omega)]
    rfl
theorem idims_l (l : List Int) (hn : l.length ≤ 9223372036854775807) : ∀ (d i : Nat) (n : Int), l.length - i = d → i ≤ l.length → 1 ≤ n → n ≤ 4096 → Ev (fun k => impl_DimsOk.l0 k l n l (l.length : Int) (i : Int)) (decide (l.length ≤ 6) && runOk n (l.drop i)) := by
  intro d
  induction d with
  | zero =>
    intro i n hd hi h0 h1
    refine Ev.succ ?_
    simp only [impl_DimsOk.l0]
    refine Ev.neg (by omega) (Ev.some ?_)
    rw [List.drop_eq_nil_of_le (by omega)]
    simp only [runOk, Bool.and_true]
    exact decide_eq_decide.2 (by omega)
  | succ d ih =>
    intro i n hd hi h0 h1
    have hlt : i < l.length := by omega
    refine Ev.succ ?_
    simp only [impl_DimsOk.l0]
    refine Ev.pos (by omega) (Ev.pos (by omega) (Ev.pos (by omega) ?_))
    rw [rd_at hlt, drop_at hlt]
    refine Ev.ite (fun h => Ev.succ ?_) (fun h => Ev.succ ?_)
    · simp only [impl_DimsOk.j1]
      refine Ev.pos (by trivial) (Ev.some ?_)
      simp [runOk, h]
    · simp only [impl_DimsOk.j1]
      by_cases h2 : 4096 < l[i]
      · refine Ev.pos (by simpa using h2) (Ev.some ?_)
        simp [runOk, h, h2]
      · have p1 : n * l[i] ≤ 4096 * 4096 := Int.mul_le_mul h1 (by omega) (by omega) (by omega)
        have p0 : 1 * 1 ≤ n * l[i] := Int.mul_le_mul h0 (by omega) (by omega) (by omega)
        refine Ev.neg (by simpa using h2) ?_
        rw [wrap_id (by omega : -9223372036854775808 ≤ n * l[i]) (by omega), up i hlt hn]
        refine Ev.ite (fun h3 => Ev.some ?_) (fun h3 => ?_)
        · simp [runOk, h, h2, show 4096 < n * l[i] from h3]
        · have e : runOk n (l[i] :: l.drop (i + 1)) = runOk (n * l[i]) (l.drop (i + 1)) := by
            simp [runOk, h, h2, show ¬ 4096 < n * l[i] from h3]
          rw [e]
          exact ih (i + 1) _ (by omega) (by omega) (by omega) (by omega)
theorem idims_ev (l : List Int) (hn : l.length ≤ 9223372036854775807) : Ev (fun k => impl_DimsOk.f k l) (dimsB l) := idims_l l hn l.length 0 1 (by omega) (by omega) (by omega) (by omega)
theorem product_l (l : List Int) (hn : l.length ≤ 9223372036854775807) : ∀ (d i : Nat) (n : Int), l.length - i = d → i ≤ l.length → 1 ≤ n → n ≤ 4096 → runOk n (l.drop i) = true → Ev (fun k => impl_product.l0 k n l (l.length : Int) (i : Int)) (n * prod (l.drop i)) := by
  intro d
  induction d with
  | zero =>
    intro i n hd hi h0 h1 hr
    refine Ev.succ ?_
    simp only [impl_product.l0]
    refine Ev.neg (by omega) (Ev.some ?_)
    rw [List.drop_eq_nil_of_le (by omega)]
    simp [prod]
  | succ d ih =>
    intro i n hd hi h0 h1 hr
    have hlt : i < l.length := by omega
    rw [drop_at hlt] at hr ⊢
    obtain ⟨h2, h3, h4, h5⟩ := runOk_cons hr
    have p0 : 1 * 1 ≤ n * l[i] := Int.mul_le_mul h0 h2 (by omega) (by omega)
    refine Ev.succ ?_
    simp only [impl_product.l0]
    refine Ev.pos (by omega) (Ev.pos (by omega) (Ev.pos (by omega) ?_))
    rw [rd_at hlt, up i hlt hn, wrap_id (by omega : -9223372036854775808 ≤ n * l[i]) (by omega)]
    simp only [prod]
    rw [← Int.mul_assoc]
    exact ih (i + 1) _ (by omega) (by omega) (by omega) h4 h5
theorem product_ev (l : List Int) (hn : l.length ≤ 9223372036854775807) (hr : runOk 1 l = true) : Ev (fun k => impl_product.f k l) (prod l) := by
  have := product_l l hn l.length 0 1 (by omega) (by omega) (by omega) (by omega) hr
  rw [Int.one_mul] at this
  exact this
/-! ### marks: written into what was made, and found there again -/
def ups (a : Int) : Nat → List Int
  | 0 => []
  | n + 1 => a :: ups (a + 1) n
theorem ups_len : ∀ (n : Nat) (a : Int), (ups a n).length = n
  | 0, _ => rfl
  | n + 1, a => by simp [ups, ups_len n]
theorem ups_at : ∀ (n : Nat) (a : Int) (i : Nat) (h : i < (ups a n).length), (ups a n)[i] = a + i
  | 0, _, _, h => by simp [ups] at h
  | n + 1, a, 0, _ => by simp [ups]
  | n + 1, a, i + 1, h => by
    simp only [ups, List.getElem_cons_succ]
    rw [ups_at n (a + 1) i (by simpa [ups] using h)]
    omega
theorem set_over {β : Type} {L l : List β} {i : Nat} (h : i < L.length) (hl : l.length = L.length) : (L.take i ++ l.drop i).set i L[i] = L.take (i + 1) ++ l.drop (i + 1) := by
  have h' : i < l.length := by omega
  rw [List.drop_eq_getElem_cons h', List.set_append_right _ _ (by simp; omega), List.length_take, Nat.min_eq_left (by omega), Nat.sub_self, List.set_cons_zero, List.take_succ_eq_append_getElem h, List.append_assoc]
  rfl
theorem mark_l (l : List Int) (a : Int) (h0 : 0 ≤ a) (h1 : a + l.length ≤ 4611686018427387904) : ∀ (d i : Nat), l.length - i = d → i ≤ l.length → Ev (fun k => laws_markIntS.l0 k ((ups a l.length).take i ++ l.drop i) (a + i) (i : Int)) (a + l.length, ups a l.length) := by
  intro d
  induction d with
  | zero =>
    intro i hd hi
    refine Ev.succ ?_
    simp only [laws_markIntS.l0]
    have e : (ups a l.length).take i ++ l.drop i = ups a l.length := by
      rw [List.drop_eq_nil_of_le (by omega), List.append_nil, List.take_of_length_le (by rw [ups_len]; omega)]
    rw [e]
    exact Ev.neg (by rw [ups_len]; omega) (Ev.some (by rw [show i = l.length by omega]))
  | succ d ih =>
    intro i hd hi
    refine Ev.succ ?_
    simp only [laws_markIntS.l0]
    have hu : i < (ups a l.length).length := by rw [ups_len]; omega
    refine Ev.pos (by simp [ups_len]; omega) (Ev.pos (by omega) ?_)
    have e := set_over hu (l := l) (by rw [ups_len])
    rw [ups_at l.length a i hu] at e
    rw [Int.toNat_natCast, e, up i (by omega : i < l.length) (by omega), wrap_id (by omega) (by omega), show a + (i : Int) + 1 = a + ((i + 1 : Nat) : Int) by omega]
    exact ih (i + 1) (by omega) (by omega)
theorem mark_ev (l : List Int) (a : Int) (h0 : 0 ≤ a) (h1 : a + l.length ≤ 4611686018427387904) : Ev (fun k => laws_markIntS.f k l a) (a + l.length, ups a l.length) := by
  unfold laws_markIntS.f
  have := mark_l l a h0 h1 l.length 0 (by omega) (by omega)
  simpa using this
/-! ### tensors that can be -/
def numB (x : Int) : Bool := decide (0 ≤ x) && decide (x < 2147483647)
def tensB (dims data : List Int) : Bool := dimsB dims && (decide ((data.length : Int) = prod dims) && data.all numB)
theorem stens_l (dims l : List Int) (hn : l.length ≤ 9223372036854775807) : ∀ (d i : Nat), l.length - i = d → i ≤ l.length → Ev (fun k => spec_TensorOk.l0 k (i : Int) dims l) ((l.drop i).all numB) := by
  intro d
  induction d with
  | zero =>
    intro i hd hi
    refine Ev.succ ?_
    simp only [spec_TensorOk.l0]
    refine Ev.neg (by omega) (Ev.some ?_)
    rw [List.drop_eq_nil_of_le (by omega)]
    rfl
  | succ d ih =>
    intro i hd hi
    have hlt : i < l.length := by omega
    refine Ev.succ ?_
    simp only [spec_TensorOk.l0]
    refine Ev.pos (by omega) (Ev.pos (by omega) ?_)
    rw [rd_at hlt, drop_at hlt, List.all_cons, up i hlt hn]
    refine Ev.ite (fun h => Ev.some ?_) (fun h => Ev.ite (fun h2 => Ev.some ?_) (fun h2 => ?_))
    · simp [numB, show ¬ (0 ≤ l[i]) by omega]
    · simp [numB, show ¬ (l[i] < 2147483647) by omega]
    · rw [show numB l[i] = true by simp [numB]; omega, Bool.true_and]
      exact ih (i + 1) (by omega) (by omega)
theorem stens_ev (dims l : List Int) (hd : dims.length ≤ 9223372036854775807) (hn : l.length ≤ 9223372036854775807) : Ev (fun k => spec_TensorOk.f k dims l) (tensB dims l) := by
  unfold spec_TensorOk.f tensB
  refine Ev.bind (sdims_ev dims hd) ?_
  cases hb : dimsB dims with
  | false =>
    refine Ev.neg (by simp) (Ev.succ ?_)
    simp only [spec_TensorOk.j0]
    exact Ev.pos (by trivial) (Ev.some rfl)
  | true =>
    have hb' := hb
    unfold dimsB at hb'
    simp only [Bool.and_eq_true, decide_eq_true_eq] at hb'
    have e := size_ev dims hd
    rw [if_pos hb'.2] at e
    refine Ev.pos rfl (Ev.bind e (Ev.succ ?_))
    simp only [spec_TensorOk.j0, Bool.true_and]
    by_cases h : (l.length : Int) = prod dims
    · refine Ev.neg (by simpa using h) ?_
      rw [decide_eq_true h, Bool.true_and]
      exact stens_l dims l hn l.length 0 (by omega) (by omega)
    · refine Ev.pos (by simpa using h) (Ev.some ?_)
      rw [decide_eq_false h]
      rfl
theorem isnum_f (x : Int) : impl_isNum.f x = some (numB x) := by
  unfold impl_isNum.f numB
  split
  · next h => rw [decide_eq_true (show 0 ≤ x by omega), Bool.true_and]
  · next h => rw [decide_eq_false (show ¬ 0 ≤ x by omega), Bool.false_and]
theorem nums_l (l : List Int) (hn : l.length ≤ 9223372036854775807) : ∀ (d i : Nat), l.length - i = d → i ≤ l.length → Ev (fun k => impl_allNums.l0 k l (l.length : Int) (i : Int)) ((l.drop i).all numB) := by
  intro d
  induction d with
  | zero =>
    intro i hd hi
    refine Ev.succ ?_
    simp only [impl_allNums.l0]
    refine Ev.neg (by omega) (Ev.some ?_)
    rw [List.drop_eq_nil_of_le (by omega)]
    rfl
  | succ d ih =>
    intro i hd hi
    have hlt : i < l.length := by omega
    refine Ev.succ ?_
    simp only [impl_allNums.l0]
    refine Ev.pos (by omega) (Ev.pos (by omega) (Ev.pos (by omega) ?_))
    rw [rd_at hlt, drop_at hlt, List.all_cons, up i hlt hn]
    refine Ev.b (isnum_f _) ?_
    cases numB l[i] with
    | false => exact Ev.neg (by simp) (Ev.some rfl)
    | true => exact Ev.pos rfl (ih (i + 1) (by omega) (by omega))
theorem nums_ev (l : List Int) (hn : l.length ≤ 9223372036854775807) : Ev (fun k => impl_allNums.f k l) (l.all numB) := by
  unfold impl_allNums.f
  exact nums_l l hn l.length 0 (by omega) (by omega)
theorem itens_ev (dims l : List Int) (hd : dims.length ≤ 9223372036854775807) (hn : l.length ≤ 9223372036854775807) : Ev (fun k => impl_TensorOk.f k dims l) (tensB dims l) := by
  unfold impl_TensorOk.f tensB
  refine Ev.bind (idims_ev dims hd) ?_
  cases hb : dimsB dims with
  | false => exact Ev.neg (by simp) (Ev.some rfl)
  | true =>
    have hb' := hb
    unfold dimsB at hb'
    simp only [Bool.and_eq_true, decide_eq_true_eq] at hb'
    refine Ev.pos rfl (Ev.bind (product_ev dims hd hb'.2) ?_)
    rw [Bool.true_and]
    refine Ev.ite (fun h => ?_) (fun h => ?_)
    · rw [decide_eq_true h, Bool.true_and]
      exact Ev.bind (nums_ev l hn) (Ev.some rfl)
    · rw [decide_eq_false h]
      exact Ev.some rfl
theorem toTensor_ev (a b : List Int) (ha : a.length ≤ 1048576) (hb : b.length ≤ 1048576) : Ev (fun k => laws_toTensor.f k a b) (a, b) := by
  unfold laws_toTensor.f
  exact Ev.bind (toIntS_ev a (by omega)) (Ev.bind (toIntS_ev b (by omega)) (Ev.some rfl))
theorem eqTensor_ev (a b : List Int) (ha : a.length ≤ 1048576) (hb : b.length ≤ 1048576) : Ev (fun k => laws_eqTensor.f k a b a b) true := by
  unfold laws_eqTensor.f
  exact Ev.bind (eqIntS_ev a (by omega)) (Ev.pos rfl (Ev.bind (eqIntS_ev b (by omega)) (Ev.pos rfl (Ev.some rfl))))
theorem markTensor_ev (a b : List Int) (ha : a.length ≤ 1048576) (hb : b.length ≤ 1048576) : Ev (fun k => laws_markTensor.f k a b 1) (1 + (a.length : Int) + b.length, ups 1 a.length, ups (1 + (a.length : Int)) b.length) := by
  unfold laws_markTensor.f
  exact Ev.bind (mark_ev a 1 (by omega) (by omega)) (Ev.bind (mark_ev b _ (by omega) (by omega)) (Ev.some rfl))
theorem szTensor_f (a b : List Int) (ha : a.length ≤ 9223372036854775807) (hb : b.length ≤ 9223372036854775807) : ∃ q, laws_szTensor.f a b 1048576 = some q ∧ (q < 0 ∨ (0 ≤ q ∧ a.length ≤ 1048576 ∧ b.length ≤ 1048576)) := by
  unfold laws_szTensor.f laws_szIntS.f
  rw [wrap_id (by omega) (by omega)]
  by_cases h : (1048576 : Int) - (a.length : Int) < 0
  · rw [if_pos h, Option.bind_some, if_pos (by omega)]
    exact ⟨_, rfl, .inl (by omega)⟩
  · rw [if_neg h, Option.bind_some, if_neg h, wrap_id (by omega) (by omega)]
    by_cases h2 : (1048576 : Int) - (a.length : Int) - (b.length : Int) < 0
    · rw [if_pos h2, Option.bind_some, if_pos (by omega)]
      exact ⟨_, rfl, .inl (by omega)⟩
    · rw [if_neg h2, Option.bind_some, if_neg h2]
      exact ⟨_, rfl, .inr ⟨by omega, by omega, by omega⟩⟩
theorem held_l (n : Nat) (a : Int) (h0 : 0 ≤ a) (h1 : a + n ≤ 4611686018427387904) : ∀ (d i : Nat), n - i = d → i ≤ n → Ev (fun k => laws_heldIntS.l0 k (ups a n) (a + i) (i : Int)) (a + n) := by
  intro d
  induction d with
  | zero =>
    intro i hd hi
    refine Ev.succ ?_
    simp only [laws_heldIntS.l0]
    exact Ev.neg (by rw [ups_len]; omega) (Ev.some (by rw [show i = n by omega]))
  | succ d ih =>
    intro i hd hi
    refine Ev.succ ?_
    simp only [laws_heldIntS.l0]
    have hu : i < (ups a n).length := by rw [ups_len]; omega
    refine Ev.pos (by omega) (Ev.pos (by omega) ?_)
    rw [rd_at hu, ups_at n a i hu, up i (by omega : i < n) (by omega), wrap_id (by omega) (by omega), show a + (i : Int) + 1 = a + ((i + 1 : Nat) : Int) by omega]
    exact Ev.pos rfl (ih (i + 1) (by omega) (by omega))
theorem held_ev (n : Nat) (a : Int) (h0 : 0 ≤ a) (h1 : a + n ≤ 4611686018427387904) : Ev (fun k => laws_heldIntS.f k (ups a n) a) (a + n) := by
  unfold laws_heldIntS.f
  have := held_l n a h0 h1 n 0 (by omega) (by omega)
  simpa using this
theorem clone_f (l : List Int) (h : l.length < 17592186044416) : slices_Clone_int_int.f l = some l := by
  unfold slices_Clone_int_int.f
  rw [if_pos h]
/-! ### indexes in order, and their places -/
theorem index_l (l : List Int) (hn : l.length ≤ 6) (hd : ∀ d ∈ l, 1 ≤ d) (k0 : Int) (hk : 0 ≤ k0) (hk' : k0 ≤ 9223372036854775807) : ∀ (i : Nat), i ≤ l.length →
    Ev (fun k => spec_l3Index.l0 k l (idxs (l.drop i) k0).2 (List.replicate i 0 ++ (idxs (l.drop i) k0).1) ((i : Int) - 1)) (idxs l k0).1 := by
  intro i
  induction i with
  | zero =>
    intro hi
    refine Ev.succ ?_
    simp only [spec_l3Index.l0]
    refine Ev.neg (by omega) (Ev.some ?_)
    simp
  | succ i ih =>
    intro hi
    have hlt : i < l.length := by omega
    have hdi := hd _ (List.getElem_mem hlt)
    have hnn : 0 ≤ (idxs (l.drop (i + 1)) k0).2 := idxs_nonneg (fun d hm => hd d (List.mem_of_mem_drop hm)) hk
    have hle : (idxs (l.drop (i + 1)) k0).2 ≤ k0 := by
      have o := ord_idxs (ds := l.drop (i + 1)) (fun d hm => hd d (List.mem_of_mem_drop hm)) hk
      obtain ⟨o1, o2⟩ := ord_lt (ds := l.drop (i + 1)) (fun d hm => hd d (List.mem_of_mem_drop hm)) (idxs_in (fun d hm => hd d (List.mem_of_mem_drop hm)) hk)
      have p : (idxs (l.drop (i + 1)) k0).2 * 1 ≤ (idxs (l.drop (i + 1)) k0).2 * prod (l.drop (i + 1)) := Int.mul_le_mul_of_nonneg_left (by omega) hnn
      omega
    have hq : 0 ≤ (idxs (l.drop (i + 1)) k0).2 / l[i] := Int.ediv_nonneg hnn (by omega)
    have hq' : (idxs (l.drop (i + 1)) k0).2 / l[i] ≤ (idxs (l.drop (i + 1)) k0).2 := Int.ediv_le_self _ hnn
    refine Ev.succ ?_
    simp only [spec_l3Index.l0]
    have e1 : ((i + 1 : Nat) : Int) - 1 = (i : Int) := by omega
    rw [e1]
    refine Ev.pos (by omega) (Ev.pos (by omega) (Ev.pos (by omega) ?_))
    rw [rd_at hlt]
    refine Ev.neg (by omega) (Ev.pos (by simp [idxs_len]; omega) ?_)
    rw [wrap_id (by omega : -9223372036854775808 ≤ (i : Int) - 1) (by omega), Int.tdiv_eq_ediv_of_nonneg hnn, Int.tmod_eq_emod_of_nonneg hnn, wrap_id (by omega : -9223372036854775808 ≤ (idxs (l.drop (i + 1)) k0).2 / l[i]) (by omega), Int.toNat_natCast]
    have ih := ih (by omega)
    rw [drop_at hlt] at ih
    simp only [idxs] at ih
    have e2 : (List.replicate (i + 1) (0 : Int) ++ (idxs (l.drop (i + 1)) k0).1).set i ((idxs (l.drop (i + 1)) k0).2 % l[i]) = List.replicate i 0 ++ ((idxs (l.drop (i + 1)) k0).2 % l[i] :: (idxs (l.drop (i + 1)) k0).1) := by
      rw [show List.replicate (i + 1) (0 : Int) = List.replicate i 0 ++ [0] from List.replicate_succ', List.append_assoc, List.set_append_right _ _ (by simp)]
      simp
    rw [e2]
    exact ih
theorem index_ev (l : List Int) (hn : l.length ≤ 6) (hd : ∀ d ∈ l, 1 ≤ d) (k0 : Int) (hk : 0 ≤ k0) (hk' : k0 ≤ 9223372036854775807) : Ev (fun k => spec_l3Index.f k l k0) (idxs l k0).1 := by
  unfold spec_l3Index.f
  refine Ev.pos (by omega) (Ev.pos (by omega) ?_)
  have := index_l l hn hd k0 hk hk' l.length (by omega)
  rw [List.drop_length] at this
  simp only [idxs, List.append_nil] at this
  rw [wrap_id (by omega) (by omega)]
  exact this
/-! ### a place along an axis: what stands before, along and behind -/
theorem prod_split : ∀ (a : Nat) (ds : List Int) (_ : a < ds.length), prod ds = prod (ds.take a) * ds.getD a 0 * prod (ds.drop (a + 1))
  | 0, d :: ds, _ => by simp [prod]
  | a + 1, d :: ds, h => by
    have ih := prod_split a ds (by simpa using h)
    simp only [List.take_succ_cons, List.drop_succ_cons, List.getD_cons_succ, prod]
    rw [ih]
    grind
theorem ord_split : ∀ (a : Nat) (ds xs : List Int) (_ : a < ds.length) (_ : xs.length = ds.length), ord ds xs = (ord (ds.take a) (xs.take a) * ds.getD a 0 + xs.getD a 0) * prod (ds.drop (a + 1)) + ord (ds.drop (a + 1)) (xs.drop (a + 1))
  | 0, d :: ds, x :: xs, _, _ => by
    simp [ord]
  | a + 1, d :: ds, x :: xs, h, hl => by
    have ih := ord_split a ds xs (by simpa using h) (by simpa using hl)
    have ip := prod_split a ds (by simpa using h)
    simp only [List.take_succ_cons, List.drop_succ_cons, List.getD_cons_succ, ord]
    rw [ih, ip]
    grind
/-- Setting one place of an index moves its place in the order by so many steps. -/
theorem ord_set (a : Nat) (ds xs : List Int) (h : a < ds.length) (hl : xs.length = ds.length) (v : Int) : ord ds (xs.set a v) = (ord (ds.take a) (xs.take a) * ds.getD a 0 + v) * prod (ds.drop (a + 1)) + ord (ds.drop (a + 1)) (xs.drop (a + 1)) := by
  rw [ord_split a ds (xs.set a v) h (by simpa using hl)]
  have e1 : (xs.set a v).take a = xs.take a := by rw [List.take_set_of_le (Nat.le_refl a)]
  have e2 : (xs.set a v).drop (a + 1) = xs.drop (a + 1) := by rw [List.drop_set_of_lt (by omega)]
  have e3 : (xs.set a v).getD a 0 = v := by
    rw [List.getD_eq_getElem?_getD, List.getElem?_set_self (by omega), Option.getD_some]
  rw [e1, e2, e3]
/-! ### the reference's lines along an axis -/
theorem inD_at : ∀ {ds xs : List Int}, inD ds xs → ∀ (i : Nat) (h : i < ds.length) (h' : i < xs.length), 0 ≤ xs[i] ∧ xs[i] < ds[i]
  | [], [], _, i, h, _ => by simp at h
  | d :: ds, x :: xs, hi, i, h, h' => by
    cases i with
    | zero => exact ⟨hi.1, hi.2.1⟩
    | succ i =>
      simp only [List.getElem_cons_succ]
      exact inD_at hi.2.2 i (by simpa using h) (by simpa using h')
  | [], _ :: _, h, _, _, _ => h.elim
  | _ :: _, [], h, _, _, _ => h.elim
theorem inD_set : ∀ {ds xs : List Int}, inD ds xs → ∀ (a : Nat) (v : Int) (_ : a < ds.length), 0 ≤ v → v < ds.getD a 0 → inD ds (xs.set a v)
  | [], [], _, a, _, h, _, _ => by simp at h
  | d :: ds, x :: xs, hi, a, v, h, h0, h1 => by
    cases a with
    | zero => exact ⟨h0, by simpa using h1, hi.2.2⟩
    | succ a => exact ⟨hi.1, hi.2.1, inD_set hi.2.2 a v (by simpa using h) h0 (by simpa using h1)⟩
  | [], _ :: _, h, _, _, _, _, _ => h.elim
  | _ :: _, [], h, _, _, _, _, _ => h.elim
theorem order_l (ds xs : List Int) (hn : ds.length ≤ 6) (hl : xs.length = ds.length) (hr : runOk 1 ds = true) (hi : inD ds xs) : ∀ (d i : Nat) (acc : Int), ds.length - i = d → i ≤ ds.length → 0 ≤ acc → (acc + 1) * prod (ds.drop i) ≤ 4096 →
    Ev (fun k => spec_l3Order.l0 k ds xs acc (i : Int)) (acc * prod (ds.drop i) + ord (ds.drop i) (xs.drop i)) := by
  have hall := run_all hr
  intro d
  induction d with
  | zero =>
    intro i acc hd hi' h0 h1
    refine Ev.succ ?_
    simp only [spec_l3Order.l0]
    refine Ev.neg (by omega) (Ev.some ?_)
    rw [List.drop_eq_nil_of_le (by omega), List.drop_eq_nil_of_le (by omega)]
    simp [prod, ord]
  | succ d ih =>
    intro i acc hd hi' h0 h1
    have hlt : i < ds.length := by omega
    have hlt' : i < xs.length := by omega
    have hx := inD_at hi i hlt hlt'
    have hdi := hall _ (List.getElem_mem hlt)
    have hp := prod_le hr (i + 1)
    rw [drop_at hlt] at h1
    simp only [prod] at h1
    have e1 : (acc + 1) * (ds[i] * prod (ds.drop (i + 1))) = (acc * ds[i] + ds[i]) * prod (ds.drop (i + 1)) := by grind
    have e2 : (acc * ds[i] + xs[i] + 1) * prod (ds.drop (i + 1)) ≤ (acc * ds[i] + ds[i]) * prod (ds.drop (i + 1)) := Int.mul_le_mul_of_nonneg_right (by omega) (by omega)
    have m0 : 0 ≤ acc * ds[i] := Int.mul_nonneg h0 (by omega)
    have m1 : (acc * ds[i] + ds[i]) * 1 ≤ (acc * ds[i] + ds[i]) * prod (ds.drop (i + 1)) := Int.mul_le_mul_of_nonneg_left hp.1 (by omega)
    have ih := ih (i + 1) (acc * ds[i] + xs[i]) (by omega) (by omega) (by omega) (by omega)
    refine Ev.succ ?_
    simp only [spec_l3Order.l0]
    refine Ev.pos (by omega) (Ev.pos (by omega) (Ev.pos (by omega) ?_))
    rw [rd_at hlt, rd_at hlt', up i hlt (by omega), wrap_id (by omega : -9223372036854775808 ≤ acc * ds[i]) (by omega), wrap_id (by omega : -9223372036854775808 ≤ acc * ds[i] + xs[i]) (by omega), drop_at hlt, drop_at hlt']
    simp only [prod, ord]
    rw [show acc * (ds[i] * prod (ds.drop (i + 1))) + (xs[i] * prod (ds.drop (i + 1)) + ord (ds.drop (i + 1)) (xs.drop (i + 1))) = (acc * ds[i] + xs[i]) * prod (ds.drop (i + 1)) + ord (ds.drop (i + 1)) (xs.drop (i + 1)) by grind]
    exact ih
theorem order_ev (ds xs : List Int) (hn : ds.length ≤ 6) (hl : xs.length = ds.length) (hr : runOk 1 ds = true) (hi : inD ds xs) : Ev (fun k => spec_l3Order.f k ds xs) (ord ds xs) := by
  have hp := prod_le hr 0
  have := order_l ds xs hn hl hr hi ds.length 0 0 (by omega) (by omega) (by omega) (by omega)
  unfold spec_l3Order.f
  simpa using this
theorem l3Ints_f (l : List Int) (h : l.length < 17592186044416) : spec_l3Ints.f l = some l := by
  unfold spec_l3Ints.f
  rw [Option.bind_some, if_pos (by simpa using h)]
  rfl
theorem with_f (l : List Int) (a : Nat) (v : Int) (h : a < l.length) (hl : l.length < 17592186044416) : spec_l4With.f l (a : Int) v = some (l.set a v) := by
  unfold spec_l4With.f
  rw [l3Ints_f l hl, Option.bind_some, if_pos (by omega), if_pos (by omega), Int.toNat_natCast]
theorem ord_lt' {ds xs : List Int} (hr : runOk 1 ds = true) (hi : inD ds xs) : 0 ≤ ord ds xs ∧ ord ds xs < prod ds := ord_lt (fun d hd => (run_all hr d hd).1) hi
theorem get_ev (ds data xs : List Int) (hn : ds.length ≤ 6) (hl : xs.length = ds.length) (hr : runOk 1 ds = true) (hi : inD ds xs) (hd : (data.length : Int) = prod ds) : Ev (fun k => spec_l4Get.f k ds data xs) (rd data (ord ds xs)) := by
  have h := ord_lt' hr hi
  unfold spec_l4Get.f
  exact Ev.bind (order_ev ds xs hn hl hr hi) (Ev.pos h.1 (Ev.pos (by omega) (Ev.some rfl)))
/-! ### the program's lines along an axis -/
theorem run_take : ∀ {l : List Int} {n : Int} (i : Nat), runOk n l = true → runOk n (l.take i) = true
  | [], n, i, h => by simpa using h
  | d :: ds, n, 0, h => by simp [runOk]
  | d :: ds, n, i + 1, h => by
    have h2 := runOk_cons h
    have := run_take i h2.2.2.2
    rw [List.take_succ_cons]
    simp only [runOk]
    rw [if_neg (by omega), if_neg (by omega), if_neg (by omega)]
    exact this
theorem lines_ev (ds : List Int) (a : Nat) (hn : ds.length ≤ 6) (hr : runOk 1 ds = true) (ha : a < ds.length) : Ev (fun k => impl_lines.f k ds (a : Int)) (prod (ds.take a), ds.getD a 0, prod (ds.drop (a + 1))) := by
  unfold impl_lines.f
  have w : wrap64 ((a : Int) + 1) = ((a + 1 : Nat) : Int) := by rw [wrap_id] <;> omega
  rw [w, Int.toNat_natCast, Int.toNat_natCast]
  exact Ev.pos (by omega) (Ev.pos (by omega) (Ev.bind (product_ev _ (by rw [List.length_take]; omega) (run_take a hr)) (Ev.pos (by omega) (Ev.pos (by omega) (Ev.pos (by omega) (Ev.bind (product_ev _ (by rw [List.length_drop]; omega) (run_drop (a + 1) hr)) (Ev.some (by rw [rd, Int.toNat_natCast]))))))))
/-! ### a place told by what stands before, along and behind -/
theorem cell_of (n B i k j : Nat) (hk : k < n) (hj : j < B) : ((i * n + k) * B + j) / B / n = i ∧ ((i * n + k) * B + j) / B % n = k ∧ ((i * n + k) * B + j) % B = j := by
  have h1 : ((i * n + k) * B + j) / B = i * n + k := by
    rw [Nat.mul_comm, Nat.mul_add_div (by omega), Nat.div_eq_of_lt hj, Nat.add_zero]
  have h2 : ((i * n + k) * B + j) % B = j := by
    rw [Nat.mul_comm, Nat.mul_add_mod, Nat.mod_eq_of_lt hj]
  have h3 : (i * n + k) / n = i := by
    rw [Nat.mul_comm, Nat.mul_add_div (by omega), Nat.div_eq_of_lt hk, Nat.add_zero]
  have h4 : (i * n + k) % n = k := by
    rw [Nat.mul_comm, Nat.mul_add_mod, Nat.mod_eq_of_lt hk]
  exact ⟨by rw [h1, h3], by rw [h1, h4], h2⟩
theorem cell_eq (n B q : Nat) : q = (q / B / n * n + q / B % n) * B + q % B := by
  have h1 : q / B / n * n + q / B % n = q / B := by
    have := Nat.div_add_mod (q / B) n
    rw [Nat.mul_comm] at this
    exact this
  rw [h1]
  have := Nat.div_add_mod q B
  rw [Nat.mul_comm] at this
  exact this.symm
theorem set_map (N : Nat) (f : Nat → Int) (p : Nat) (v : Int) : ((List.range N).map f).set p v = (List.range N).map (fun q => if q = p then v else f q) := by
  apply List.ext_getElem (by simp)
  intro q h1 h2
  rw [List.getElem_set, List.getElem_map, List.getElem_map, List.getElem_range]
  by_cases e : q = p
  · rw [if_pos e.symm, if_pos e]
  · rw [if_neg (fun h => e h.symm), if_neg e]
/-! ### a place of a shape, taken apart at an axis -/
theorem inD_take : ∀ {ds xs : List Int} (a : Nat), inD ds xs → inD (ds.take a) (xs.take a)
  | [], [], a, _ => by simp [inD]
  | d :: ds, x :: xs, 0, _ => by simp [inD]
  | d :: ds, x :: xs, a + 1, h => ⟨h.1, h.2.1, inD_take a h.2.2⟩
  | [], _ :: _, _, h => h.elim
  | _ :: _, [], _, h => h.elim
theorem inD_drop : ∀ {ds xs : List Int} (a : Nat), inD ds xs → inD (ds.drop a) (xs.drop a)
  | [], [], a, _ => by simp [inD]
  | d :: ds, x :: xs, 0, h => h
  | d :: ds, x :: xs, a + 1, h => inD_drop a h.2.2
  | [], _ :: _, _, h => h.elim
  | _ :: _, [], _, h => h.elim
theorem inD_swap : ∀ {ds xs : List Int}, inD ds xs → ∀ (a : Nat) (m v : Int) (_ : a < ds.length), 0 ≤ v → v < m → inD (ds.set a m) (xs.set a v)
  | [], [], _, a, _, _, h, _, _ => by simp at h
  | d :: ds, x :: xs, hi, a, m, v, h, h0, h1 => by
    cases a with
    | zero => exact ⟨h0, h1, hi.2.2⟩
    | succ a => exact ⟨hi.1, hi.2.1, inD_swap hi.2.2 a m v (by simpa using h) h0 h1⟩
  | [], _ :: _, h, _, _, _, _, _, _ => h.elim
  | _ :: _, [], h, _, _, _, _, _, _ => h.elim
theorem place_split (ds : List Int) (a n B q : Nat) (hr : runOk 1 ds = true) (ha : a < ds.length) (hn : ds.getD a 0 = (n : Int)) (hB : prod (ds.drop (a + 1)) = (B : Int)) (hq : (q : Int) < prod ds) :
    inD ds (idxs ds (q : Int)).1 ∧ (idxs ds (q : Int)).1.length = ds.length ∧ rd (idxs ds (q : Int)).1 (a : Int) = ((q / B % n : Nat) : Int) ∧ q / B % n < n ∧ q % B < B ∧
      ∀ (ds' : List Int) (m v : Nat), ds'.length = ds.length → ds'.take a = ds.take a → ds'.drop (a + 1) = ds.drop (a + 1) → ds'.getD a 0 = (m : Int) → ord ds' ((idxs ds (q : Int)).1.set a (v : Int)) = (((q / B / n * m + v) * B + q % B : Nat) : Int) := by
  have hd : ∀ d ∈ ds, 1 ≤ d := fun d hm => (run_all hr d hm).1
  have ht := (idxs_top hd (by omega : (0 : Int) ≤ (q : Int)) hq).2
  have hi := idxs_in hd (by omega : (0 : Int) ≤ (q : Int))
  have hl := idxs_len ds (q : Int)
  generalize (idxs ds (q : Int)).1 = xs at ht hi hl ⊢
  have h1 := ord_lt (fun d hm => hd d (List.mem_of_mem_take hm)) (inD_take a hi)
  have h2 := ord_lt (fun d hm => hd d (List.mem_of_mem_drop hm)) (inD_drop (a + 1) hi)
  have hxl : a < xs.length := by omega
  have h3 := inD_at hi a ha hxl
  have hx : xs.getD a 0 = xs[a] := by rw [List.getD_eq_getElem?_getD, List.getElem?_eq_getElem hxl, Option.getD_some]
  have hdd : ds.getD a 0 = ds[a] := by rw [List.getD_eq_getElem?_getD, List.getElem?_eq_getElem ha, Option.getD_some]
  have hs := ord_split a ds xs ha hl
  obtain ⟨o1, e1⟩ := Int.eq_ofNat_of_zero_le h1.1
  obtain ⟨o2, e2⟩ := Int.eq_ofNat_of_zero_le h2.1
  obtain ⟨x, e3⟩ := Int.eq_ofNat_of_zero_le h3.1
  have hq' : q = (o1 * n + x) * B + o2 := by
    rw [ht, e1, e2, hn, hB, hx, e3] at hs
    exact_mod_cast hs
  obtain ⟨c1, c2, c3⟩ := cell_of n B o1 x o2 (by omega) (by omega)
  rw [← hq'] at c1 c2 c3
  refine ⟨hi, hl, ?_, by omega, by omega, ?_⟩
  · rw [c2, rd, Int.toNat_natCast, hx, e3]
  · intro ds' m v hl' ht' hd' hm
    rw [ord_set a ds' xs (by omega) (by omega), ht', hd', hm, e1, e2, hB, c1, c3]
    push_cast
    rfl
theorem cell_lt {A n B i k j : Nat} (hi : i < A) (hk : k < n) (hj : j < B) : (i * n + k) * B + j < A * n * B ∧ i * n + k < A * n := by
  have h1 : (i + 1) * n ≤ A * n := Nat.mul_le_mul_right n hi
  rw [Nat.add_mul, Nat.one_mul] at h1
  have h2 : (i * n + k + 1) * B ≤ A * n * B := Nat.mul_le_mul_right B (by omega)
  rw [Nat.add_mul, Nat.one_mul] at h2
  omega
theorem at_cell {A n B i k j : Nat} (hi : i < A) (hk : k < n) (hj : j < B) (hN : A * n * B ≤ 4096) : wrap64 (wrap64 (wrap64 (wrap64 ((i : Int) * (n : Int)) + (k : Int)) * (B : Int)) + (j : Int)) = (((i * n + k) * B + j : Nat) : Int) := by
  obtain ⟨h, h'⟩ := cell_lt hi hk hj
  have w : ∀ z : Nat, z ≤ 4096 → wrap64 (z : Int) = z := fun z hz => wrap_id (by omega) (by omega)
  have m : (i * n + k) * 1 ≤ (i * n + k) * B := Nat.mul_le_mul_left _ (by omega)
  have h4 : (i * n + k) * B + j ≤ 4096 := by omega
  have h3 : (i * n + k) * B ≤ 4096 := by omega
  have h2 : i * n + k ≤ 4096 := by omega
  have h1 : i * n ≤ 4096 := by omega
  have e1 : (i : Int) * (n : Int) = ((i * n : Nat) : Int) := by push_cast; rfl
  have e2 : ((i * n : Nat) : Int) + (k : Int) = ((i * n + k : Nat) : Int) := by push_cast; rfl
  have e3 : ((i * n + k : Nat) : Int) * (B : Int) = (((i * n + k) * B : Nat) : Int) := by push_cast; rfl
  have e4 : (((i * n + k) * B : Nat) : Int) + (j : Int) = (((i * n + k) * B + j : Nat) : Int) := by push_cast; rfl
  rw [e1, w _ h1, e2, w _ h2, e3, w _ h3, e4, w _ h4]
theorem isAxis_f (ds : List Int) (a : Int) : impl_isAxis.f ds a = some (decide (0 ≤ a) && decide (a < (ds.length : Int))) := by
  unfold impl_isAxis.f
  split
  · next h => rw [decide_eq_true (show 0 ≤ a by omega), Bool.true_and]
  · next h => rw [decide_eq_false (show ¬ 0 ≤ a by omega), Bool.false_and]
theorem axis_ev (ds data : List Int) (a : Int) (h1 : ds.length ≤ 1048576) (h2 : data.length ≤ 1048576) : Ev (fun k => spec_l4Axis.f k ds data a) (tensB ds data && (decide (0 ≤ a) && decide (a < (ds.length : Int)))) := by
  unfold spec_l4Axis.f
  refine Ev.bind (stens_ev ds data (by omega) (by omega)) ?_
  cases tensB ds data with
  | false => exact Ev.neg (by simp) (Ev.some rfl)
  | true =>
    refine Ev.pos rfl (Ev.ite (fun h => Ev.some ?_) (fun h => Ev.some ?_))
    · rw [decide_eq_true (show 0 ≤ a by omega)]
      rfl
    · rw [decide_eq_false (show ¬ 0 ≤ a by omega)]
      rfl
/-! ### pairs along an axis, and what they move -/
theorem rdS_at {l : List S113} {i : Nat} (h : i < l.length) : rd_T113 l (i : Int) = l[i] := by
  unfold rd_T113
  rw [List.getD_eq_getElem?_getD, Int.toNat_natCast, List.getElem?_eq_getElem h, Option.getD_some]
theorem range_at {β : Type} (F : Nat → β) (n i : Nat) (h : i < ((List.range n).map F).length) : ((List.range n).map F)[i] = F i := by simp
/-- From where, in the order of the pairs. -/
def frQ (l L B : Nat) (fr : Nat → Nat) (q : Nat) : Nat := (q / B / L * l + fr (q / B % L)) * B + q % B
def alongM (A l n B L : Nat) (fr tt : Nat → Nat) : List S113 := (List.range (A * L * B)).map fun q => (⟨(frQ l L B fr q : Int), (frQ n L B tt q : Int)⟩ : S113)
theorem alongM_len (A l n B L : Nat) (fr tt : Nat → Nat) : (alongM A l n B L fr tt).length = A * L * B := by simp [alongM]
def listM (L : Nat) (fr tt : Nat → Nat) : List S113 := (List.range L).map fun p => (⟨(fr p : Int), (tt p : Int)⟩ : S113)
theorem listM_len (L : Nat) (fr tt : Nat → Nat) : (listM L fr tt).length = L := by simp [listM]
theorem frQ_at {l L B i p j : Nat} {fr : Nat → Nat} (hp : p < L) (hj : j < B) : frQ l L B fr ((i * L + p) * B + j) = (i * l + fr p) * B + j := by
  obtain ⟨c1, c2, c3⟩ := cell_of L B i p j hp hj
  unfold frQ
  rw [c1, c2, c3]
theorem take_next {β : Type} {l : List β} {i : Nat} (h : i < l.length) : l.take i ++ [l[i]] = l.take (i + 1) := (List.take_succ_eq_append_getElem h).symm
section
set_option linter.unusedSectionVars false
variable (A l n B L : Nat) (fr tt : Nat → Nat) (hN : A * L * B ≤ 4096) (hl : A * l * B ≤ 4096) (hn : A * n * B ≤ 4096) (hf : ∀ p < L, fr p < l) (ht : ∀ p < L, tt p < n) (hA4 : A ≤ 4096) (hB4 : B ≤ 4096) (hL4 : L ≤ 4096)
include hN hl hn hf ht hA4 hB4 hL4
theorem along_l2 (i p : Nat) (hi : i < A) (hp : p < L) (r : List S113)
    (h : Ev (fun K => impl_along.l1 K (n : Int) (listM L fr tt) (A : Int) (l : Int) (B : Int) ((alongM A l n B L fr tt).take ((i * L + (p + 1)) * B)) (i : Int) (listM L fr tt) (L : Int) ((p + 1 : Nat) : Int)) r) :
    ∀ (d j : Nat), B - j = d → j ≤ B → Ev (fun K => impl_along.l2 K (n : Int) (listM L fr tt) (A : Int) (l : Int) (B : Int) ((alongM A l n B L fr tt).take ((i * L + p) * B + j)) (i : Int) (j : Int) (listM L fr tt) (L : Int) (p : Int) (fr p : Int) (tt p : Int)) r := by
  intro d
  induction d with
  | zero =>
    intro j hd hj
    refine Ev.succ ?_
    simp only [impl_along.l2]
    rw [up p hp (by omega), show (i * L + p) * B + j = (i * L + (p + 1)) * B by rw [show j = B by omega, ← Nat.add_assoc, Nat.add_mul (i * L + p) 1 B, Nat.one_mul]]
    exact Ev.neg (by omega) h
  | succ d ih =>
    intro j hd hj
    have hj' : j < B := by omega
    have hc := cell_lt hi hp hj'
    have hlt : (i * L + p) * B + j < (alongM A l n B L fr tt).length := by rw [alongM_len]; exact hc.1
    refine Ev.succ ?_
    simp only [impl_along.l2]
    rw [at_cell hi (hf p hp) hj' hl, at_cell hi (ht p hp) hj' hn, up j hj' (by omega)]
    refine Ev.pos (by omega) (Ev.pos (by rw [List.length_take]; omega) ?_)
    have e := take_next hlt
    have e2 : (alongM A l n B L fr tt)[(i * L + p) * B + j] = (⟨(((i * l + fr p) * B + j : Nat) : Int), (((i * n + tt p) * B + j : Nat) : Int)⟩ : S113) := by
      simp only [alongM, range_at]
      rw [frQ_at hp hj', frQ_at hp hj']
    rw [e2] at e
    rw [e]
    exact ih (j + 1) (by omega) (by omega)
theorem along_l1 (i : Nat) (hi : i < A) (r : List S113)
    (h : Ev (fun K => impl_along.l0 K (n : Int) (listM L fr tt) (A : Int) (l : Int) (B : Int) ((alongM A l n B L fr tt).take ((i + 1) * L * B)) ((i + 1 : Nat) : Int)) r) :
    ∀ (d p : Nat), L - p = d → p ≤ L → Ev (fun K => impl_along.l1 K (n : Int) (listM L fr tt) (A : Int) (l : Int) (B : Int) ((alongM A l n B L fr tt).take ((i * L + p) * B)) (i : Int) (listM L fr tt) (L : Int) (p : Int)) r := by
  intro d
  induction d with
  | zero =>
    intro p hd hp
    refine Ev.succ ?_
    simp only [impl_along.l1]
    rw [up i hi (by omega), show i * L + p = (i + 1) * L by rw [show p = L by omega, Nat.add_mul, Nat.one_mul]]
    exact Ev.neg (by omega) h
  | succ d ih =>
    intro p hd hp
    have hp' : p < L := by omega
    have hlp : p < (listM L fr tt).length := by rw [listM_len]; exact hp'
    refine Ev.succ ?_
    simp only [impl_along.l1]
    refine Ev.pos (by omega) (Ev.pos (by omega) (Ev.pos (by rw [listM_len]; omega) ?_))
    rw [rdS_at hlp]
    have e : (listM L fr tt)[p] = (⟨(fr p : Int), (tt p : Int)⟩ : S113) := by simp [listM]
    rw [e]
    exact along_l2 A l n B L fr tt hN hl hn hf ht hA4 hB4 hL4 i p hi hp' r (ih (p + 1) (by omega) (by omega)) B 0 (by omega) (by omega)
theorem along_l0 : ∀ (d i : Nat), A - i = d → i ≤ A → Ev (fun K => impl_along.l0 K (n : Int) (listM L fr tt) (A : Int) (l : Int) (B : Int) ((alongM A l n B L fr tt).take (i * L * B)) (i : Int)) (alongM A l n B L fr tt) := by
  intro d
  induction d with
  | zero =>
    intro i hd hi
    refine Ev.succ ?_
    simp only [impl_along.l0]
    refine Ev.neg (by omega) (Ev.some ?_)
    exact List.take_of_length_le (by rw [alongM_len, show i = A by omega]; exact Nat.le_refl _)
  | succ d ih =>
    intro i hd hi
    refine Ev.succ ?_
    simp only [impl_along.l0]
    refine Ev.pos (by omega) ?_
    have := along_l1 A l n B L fr tt hN hl hn hf ht hA4 hB4 hL4 i (by omega) _ (ih (i + 1) (by omega) (by omega)) L 0 (by omega) (by omega)
    rw [Nat.add_zero] at this
    rw [listM_len]
    exact this
end
/-- The whole of along. -/
theorem along_ev (ds : List Int) (a A l n B L : Nat) (fr tt : Nat → Nat) (hl6 : ds.length ≤ 6) (hr : runOk 1 ds = true) (ha : a < ds.length) (eA : prod (ds.take a) = (A : Int)) (el : ds.getD a 0 = (l : Int)) (eB : prod (ds.drop (a + 1)) = (B : Int))
    (hN : A * L * B ≤ 4096) (hl : A * l * B ≤ 4096) (hn : A * n * B ≤ 4096) (hf : ∀ p < L, fr p < l) (ht : ∀ p < L, tt p < n) (hA4 : A ≤ 4096) (hB4 : B ≤ 4096) (hL4 : L ≤ 4096) :
    Ev (fun k => impl_along.f k ds (a : Int) (n : Int) (listM L fr tt)) (alongM A l n B L fr tt) := by
  unfold impl_along.f
  have e := lines_ev ds a hl6 hr ha
  rw [eA, el, eB] at e
  refine Ev.bind e ?_
  dsimp only
  have hAB : A * B ≤ 4096 * 4096 := Nat.mul_le_mul hA4 hB4
  have hABL : A * B * L ≤ 4096 * 4096 * 4096 := Nat.mul_le_mul hAB hL4
  have w0 : wrap64 ((A : Int) * (B : Int)) = ((A * B : Nat) : Int) := by
    rw [show (A : Int) * (B : Int) = ((A * B : Nat) : Int) by push_cast; rfl]
    exact wrap_id (by omega) (by omega)
  have w1 : wrap64 (wrap64 ((A : Int) * (B : Int)) * ((listM L fr tt).length : Int)) = ((A * B * L : Nat) : Int) := by
    rw [listM_len, w0, show ((A * B : Nat) : Int) * (L : Int) = ((A * B * L : Nat) : Int) by push_cast; rfl]
    exact wrap_id (by omega) (by omega)
  rw [w1, Int.toNat_natCast]
  refine Ev.pos (Int.natCast_nonneg _) (Ev.pos (Nat.le_trans hABL (by decide)) ?_)
  have := along_l0 A l n B L fr tt hN hl hn hf ht hA4 hB4 hL4 A 0 (by omega) (by omega)
  rw [Nat.zero_mul, Nat.zero_mul, List.take_zero] at this
  exact this
/-! ### numbers put together -/
def pl (x y : Int) : Int := if x + y ≥ 2147483647 then x + y - 2147483647 else x + y
theorem numB_iff {x : Int} : numB x = true ↔ 0 ≤ x ∧ x < 2147483647 := by
  unfold numB
  rw [Bool.and_eq_true, decide_eq_true_eq, decide_eq_true_eq]
theorem pl_num {x y : Int} (hx : numB x = true) (hy : numB y = true) : numB (pl x y) = true := by
  rw [numB_iff] at *
  unfold pl
  split <;> omega
theorem pl_f {x y : Int} (hx : numB x = true) (hy : numB y = true) : impl_residue_plus.f x y = some (pl x y) := by
  rw [numB_iff] at hx hy
  unfold impl_residue_plus.f pl
  rw [wrap_id (by omega) (by omega)]
  split
  · rw [wrap_id (by omega) (by omega)]
  · rfl
theorem pl_zero {x : Int} (hx : numB x = true) : pl 0 x = x := by
  rw [numB_iff] at hx
  unfold pl
  rw [if_neg (by omega), Int.zero_add]
theorem all_at {l : List Int} (h : l.all numB = true) (i : Nat) : numB (rd l (i : Int)) = true := by
  by_cases hi : i < l.length
  · rw [rd_at hi]
    exact List.all_eq_true.1 h _ (List.getElem_mem hi)
  · unfold rd
    rw [List.getD_eq_getElem?_getD, Int.toNat_natCast, List.getElem?_eq_none (by omega)]
    rfl
theorem all_set {l : List Int} (h : l.all numB = true) (i : Nat) {x : Int} (hx : numB x = true) : (l.set i x).all numB = true := by
  rw [List.all_eq_true] at *
  intro y hy
  rcases List.mem_or_eq_of_mem_set hy with g | g
  · exact h y g
  · rw [g]; exact hx
/-- d steps from q on: what stands at f is put to what stands at g. -/
def runM (f g : Nat → Nat) (data : List Int) : Nat → Nat → List Int → List Int
  | 0, _, out => out
  | d + 1, q, out => runM f g data d (q + 1) (out.set (g q) (pl (rd out (g q : Int)) (rd data (f q : Int))))
theorem runM_len (f g : Nat → Nat) (data : List Int) : ∀ (d q : Nat) (out : List Int), (runM f g data d q out).length = out.length
  | 0, _, _ => rfl
  | d + 1, q, out => by simp only [runM]; rw [runM_len f g data d]; simp
theorem moved_l (ds data : List Int) (hnum : data.all numB = true) (f g : Nat → Nat) (M : Nat) (hM : M ≤ 16777216) (N : Nat) (hf : ∀ q < M, f q < data.length) (hg : ∀ q < M, g q < N) :
    ∀ (d q : Nat) (out : List Int), M - q = d → q ≤ M → out.length = N → out.all numB = true →
      Ev (fun K => impl_moved.l0 K data ((List.range M).map fun q => (⟨(f q : Int), (g q : Int)⟩ : S113)) (M : Int) (q : Int) ds out) (ds, runM f g data d q out) := by
  intro d
  induction d with
  | zero =>
    intro q out hd hq hl ho
    refine Ev.succ ?_
    simp only [impl_moved.l0, runM]
    exact Ev.neg (by omega) (Ev.some rfl)
  | succ d ih =>
    intro q out hd hq hl ho
    have hq' : q < M := by omega
    have hlt : q < ((List.range M).map fun q => (⟨(f q : Int), (g q : Int)⟩ : S113)).length := by simp; exact hq'
    have h1 := hf q hq'
    have h2 := hg q hq'
    refine Ev.succ ?_
    simp only [impl_moved.l0, runM]
    rw [rdS_at hlt, range_at, up q hq' (by omega)]
    refine Ev.pos (by omega) (Ev.pos (by omega) (Ev.pos (by omega) (Ev.pos (by dsimp only; omega) (Ev.pos (by dsimp only; omega) (Ev.pos (by dsimp only; omega) (Ev.pos (by dsimp only; omega) (Ev.b (pl_f (all_at ho _) (all_at hnum _)) ?_)))))))
    dsimp only
    rw [Int.toNat_natCast]
    exact ih (q + 1) _ (by omega) (by omega) (by simpa using hl) (all_set ho _ (pl_num (all_at ho _) (all_at hnum _)))
theorem moved_ev (ds data : List Int) (hd : dimsB ds = true) (hdl : ds.length ≤ 1048576) (hnum : data.all numB = true) (f g : Nat → Nat) (M : Nat) (hM : M ≤ 16777216) (hf : ∀ q < M, f q < data.length) (hg : ∀ q < M, g q < (prod ds).toNat) :
    Ev (fun k => impl_moved.f k data ds ((List.range M).map fun q => (⟨(f q : Int), (g q : Int)⟩ : S113))) (ds, runM f g data M 0 (List.replicate (prod ds).toNat 0)) := by
  have d2 := idims_ev ds (by omega)
  rw [hd] at d2
  unfold dimsB at hd
  simp only [Bool.and_eq_true, decide_eq_true_eq] at hd
  have p := prod_le hd.2 0
  rw [List.drop_zero] at p
  unfold impl_moved.f impl_blank.f
  refine Ev.bind (a := (ds, List.replicate (prod ds).toNat 0)) (Ev.bind d2 (Ev.pos rfl (Ev.b (clone_f ds (by omega)) (Ev.bind (product_ev ds (by omega) hd.2) (Ev.pos (by omega) (Ev.pos (by omega) (Ev.some rfl))))))) ?_
  have := moved_l ds data hnum f g M hM (prod ds).toNat hf hg M 0 (List.replicate (prod ds).toNat 0) (by omega) (by omega) (by simp) (by
    rw [List.all_eq_true]
    intro y hy
    rw [(List.mem_replicate.1 hy).2]
    rfl)
  simpa using this
theorem iwith_f (l : List Int) (a : Nat) (v : Int) (h : a < l.length) (hl : l.length < 17592186044416) : impl_with.f l (a : Int) v = some (l.set a v) := by
  unfold impl_with.f
  rw [clone_f l hl, Option.bind_some, if_pos (by omega), if_pos (by omega), Int.toNat_natCast]
/-! ### what lies within -/
def inB (n : Int) (x : Int) : Bool := decide (0 ≤ x) && decide (x < n)
theorem within_l (l : List Int) (n : Int) (hn : l.length ≤ 9223372036854775807) : ∀ (d i : Nat), l.length - i = d → i ≤ l.length → Ev (fun k => spec_l4Within.l0 k l n (i : Int)) ((l.drop i).all (inB n)) := by
  intro d
  induction d with
  | zero =>
    intro i hd hi
    refine Ev.succ ?_
    simp only [spec_l4Within.l0]
    refine Ev.neg (by omega) (Ev.some ?_)
    rw [List.drop_eq_nil_of_le (by omega)]
    rfl
  | succ d ih =>
    intro i hd hi
    have hlt : i < l.length := by omega
    refine Ev.succ ?_
    simp only [spec_l4Within.l0]
    refine Ev.pos (by omega) (Ev.pos (by omega) ?_)
    rw [rd_at hlt, drop_at hlt, List.all_cons, up i hlt hn]
    refine Ev.ite (fun h => Ev.some ?_) (fun h => Ev.ite (fun h2 => Ev.some ?_) (fun h2 => ?_))
    · simp [inB, show ¬ (0 ≤ l[i]) by omega]
    · simp [inB, show ¬ (l[i] < n) by omega]
    · rw [show inB n l[i] = true by simp [inB]; omega, Bool.true_and]
      exact ih (i + 1) (by omega) (by omega)
theorem within_ev (l : List Int) (n : Int) (hn : l.length ≤ 9223372036854775807) : Ev (fun k => spec_l4Within.f k l n) (l.all (inB n)) := within_l l n hn l.length 0 (by omega) (by omega)
theorem in_at {l : List Int} {n : Int} (h : l.all (inB n) = true) (p : Nat) (hp : p < l.length) : ((rd l (p : Int)).toNat : Int) = rd l (p : Int) ∧ ((rd l (p : Int)).toNat : Int) < n := by
  have := List.all_eq_true.1 h _ (List.getElem_mem hp)
  simp only [inB, Bool.and_eq_true, decide_eq_true_eq] at this
  rw [rd_at hp]
  omega
/-! ### scattered along an axis -/
def ixf (idx : List Int) (p : Nat) : Nat := (rd idx (p : Int)).toNat
theorem mod_num {x : Int} (h : numB x = true) : spec_Mod.f x = some x := by
  rw [numB_iff] at h
  unfold spec_Mod.f
  rw [Int.tmod_eq_emod_of_nonneg h.1, Int.emod_eq_of_lt h.1 h.2, if_neg (by omega)]
theorem plus_f {x y : Int} (hx : numB x = true) (hy : numB y = true) : spec_Plus.f x y = some (pl x y) := by
  unfold spec_Plus.f
  rw [mod_num hx, Option.bind_some, mod_num hy, Option.bind_some]
  rw [numB_iff] at hx hy
  rw [wrap_id (by omega) (by omega)]
  unfold spec_Mod.f pl
  rw [Int.tmod_eq_emod_of_nonneg (by omega)]
  have := Int.emod_nonneg (x + y) (show (2147483647 : Int) ≠ 0 by decide)
  rw [if_neg (by omega), Option.bind_some]
  split
  · rw [show (x + y) % 2147483647 = x + y - 2147483647 by omega]
  · rw [Int.emod_eq_of_lt (by omega) (by omega)]
theorem set_ev (ds data xs : List Int) (v : Int) (hn : ds.length ≤ 6) (hl : xs.length = ds.length) (hr : runOk 1 ds = true) (hi : inD ds xs) (hd : (data.length : Int) = prod ds) : Ev (fun k => spec_l4Set.f k ds data xs v) (data.set (ord ds xs).toNat v) := by
  have h := ord_lt' hr hi
  unfold spec_l4Set.f
  exact Ev.bind (order_ev ds xs hn hl hr hi) (Ev.pos h.1 (Ev.pos (by omega) (Ev.some rfl)))
theorem zeros_num (N : Nat) : (List.replicate N (0 : Int)).all numB = true := by
  rw [List.all_eq_true]
  intro y hy
  rw [(List.mem_replicate.1 hy).2]
  rfl
theorem fr_lt {A l n L B q : Nat} {fr : Nat → Nat} (hq : q < A * L * B) (hf : ∀ p < L, fr p < l) (hB0 : 0 < B) (hL0 : 0 < L) : frQ l L B fr q < A * l * B := by
  have hBq : q % B < B := Nat.mod_lt _ hB0
  have hLq : q / B % L < L := Nat.mod_lt _ hL0
  have hAq : q / B / L < A := by
    rw [Nat.div_lt_iff_lt_mul hL0, Nat.div_lt_iff_lt_mul hB0]
    exact hq
  exact (cell_lt hAq (hf _ hLq) hBq).1
theorem fr_id (l B q : Nat) : frQ l l B id q = q := by
  unfold frQ
  exact (cell_eq l B q).symm
theorem swap_at (ds : List Int) (b : Nat) (n : Nat) (hb : b < ds.length) : (ds.set b (n : Int)).getD b 0 = (n : Int) := by rw [List.getD_eq_getElem?_getD, List.getElem?_set_self hb, Option.getD_some]
theorem prod_set (ds : List Int) (b : Nat) (n : Int) (hb : b < ds.length) : prod (ds.set b n) = prod (ds.take b) * n * prod (ds.drop (b + 1)) := by
  rw [prod_split b (ds.set b n) (by simpa using hb), List.take_set_of_le (Nat.le_refl b), List.drop_set_of_lt (by omega), List.getD_eq_getElem?_getD, List.getElem?_set_self hb, Option.getD_some]
theorem sp_l (ds idx : List Int) (b : Nat) (n : Int) (hn : idx.length ≤ 4096) (R : List Int × List S113 × Bool)
    (h1 : idx.all (inB n) = true → Ev (fun k => (impl_with.f ds (b : Int) n).bind fun t241 => ((impl_DimsOk.f k t241).bind fun t244 => (if t244 = true then ((impl_along.f k ds (b : Int) n (listM idx.length id (ixf idx))).bind fun t245 => (some (t241, t245, true))) else (some (([] : List Int), ([] : List S113), false))))) R)
    (h0 : idx.all (inB n) = false → R = ([], [], false)) :
    ∀ (d i : Nat), idx.length - i = d → i ≤ idx.length → (idx.take i).all (inB n) = true → Ev (fun k => impl_scatterPairs.l0 k ds (b : Int) n (listM i id (ixf idx)) idx (idx.length : Int) (i : Int)) R := by
  intro d
  induction d with
  | zero =>
    intro i hd hi ha
    refine Ev.succ ?_
    simp only [impl_scatterPairs.l0]
    have e : i = idx.length := by omega
    subst e
    rw [List.take_of_length_le (by omega)] at ha
    exact Ev.neg (by omega) (h1 ha)
  | succ d ih =>
    intro i hd hi ha
    have hlt : i < idx.length := by omega
    refine Ev.succ ?_
    simp only [impl_scatterPairs.l0]
    have bad : inB n idx[i] = false → Ev (fun _ : Nat => some (([] : List Int), ([] : List S113), false)) R := by
      intro hz
      refine Ev.some (h0 ?_).symm
      rw [Bool.eq_false_iff]
      intro h
      have := List.all_eq_true.1 h _ (List.getElem_mem hlt)
      rw [hz] at this
      cases this
    refine Ev.pos (by omega) (Ev.pos (by omega) (Ev.pos (by omega) ?_))
    rw [rd_at hlt]
    refine Ev.ite (fun h => bad (by simp [inB, show ¬ (0 ≤ idx[i]) by omega])) (fun h => Ev.ite (fun h2 => bad (by simp [inB, show ¬ (idx[i] < n) by omega])) (fun h2 => Ev.pos (by rw [listM_len]; omega) ?_))
    have e : listM i id (ixf idx) ++ [(⟨(i : Int), idx[i]⟩ : S113)] = listM (i + 1) id (ixf idx) := by
      unfold listM
      rw [List.range_succ, List.map_append]
      have : ((ixf idx i : Nat) : Int) = idx[i] := by
        unfold ixf
        rw [rd_at hlt]
        omega
      simp [this]
    rw [e, up i hlt (by omega)]
    refine ih (i + 1) (by omega) (by omega) ?_
    rw [List.take_succ_eq_append_getElem hlt, List.all_append, ha]
    simp [inB]
    omega
theorem scatter_l0 (ds data idx : List Int) (b l n B : Nat) (hl6 : ds.length ≤ 6) (hr : runOk 1 ds = true) (hr' : runOk 1 (ds.set b (n : Int)) = true) (hb : b < ds.length) (hl : ds.getD b 0 = (l : Int)) (hB : prod (ds.drop (b + 1)) = (B : Int)) (hd : (data.length : Int) = prod ds) (hi : idx.length = l) (hw : idx.all (inB n) = true) (hnum : data.all numB = true) :
    ∀ (d q : Nat) (out : List Int), data.length - q = d → q ≤ data.length → (out.length : Int) = prod (ds.set b (n : Int)) → out.all numB = true → Ev (fun K => spec_Scatter.l0 K (b : Int) idx (q : Int) ds data (ds.set b (n : Int)) out) (ds.set b (n : Int), runM (frQ l l B id) (frQ n l B (ixf idx)) data d q out) := by
  have hds : ∀ d ∈ ds, 1 ≤ d := fun d hm => (run_all hr d hm).1
  have hN := prod_le hr 0
  rw [List.drop_zero] at hN
  intro d
  induction d with
  | zero =>
    intro q out hd' hq hol hon
    refine Ev.succ ?_
    simp only [spec_Scatter.l0, runM]
    exact Ev.neg (by omega) (Ev.some rfl)
  | succ d ih =>
    intro q out hd' hq hol hon
    have hlt : q < data.length := by omega
    obtain ⟨hi1, hxl, hx, hk, hj, hord⟩ := place_split ds b l B q hr hb hl hB (by omega)
    have hiv := in_at hw (q / B % l) (by omega)
    refine Ev.succ ?_
    simp only [spec_Scatter.l0, runM]
    refine Ev.pos (by omega) (Ev.bind (index_ev ds hl6 hds (q : Int) (by omega) (by omega)) ?_)
    rw [hx]
    refine Ev.pos (by omega) (Ev.pos (by omega) (Ev.pos (by omega) (Ev.pos (by omega) (Ev.b (with_f _ b _ (by omega) (by omega)) ?_))))
    rw [← hiv.1]
    have hsw := inD_swap hi1 b (n : Int) ((rd idx ((q / B % l : Nat) : Int)).toNat : Int) hb (by omega) hiv.2
    have hv : ord (ds.set b (n : Int)) ((idxs ds (q : Int)).1.set b ((rd idx ((q / B % l : Nat) : Int)).toNat : Int)) = (frQ n l B (ixf idx) q : Int) := hord (ds.set b (n : Int)) n (ixf idx (q / B % l)) (by simp) (by rw [List.take_set_of_le (Nat.le_refl b)]) (by rw [List.drop_set_of_lt (by omega)]) (swap_at ds b n hb)
    have ge := get_ev (ds.set b (n : Int)) out _ (by simpa using hl6) (by simp [hxl]) hr' hsw hol
    have se := fun v => set_ev (ds.set b (n : Int)) out _ v (by simpa using hl6) (by simp [hxl]) hr' hsw hol
    rw [hv] at ge
    refine Ev.bind ge (Ev.pos (by omega) (Ev.b (plus_f (all_at hon _) (all_at hnum _)) (Ev.bind (se _) ?_)))
    rw [hv, Int.toNat_natCast, up q hlt (by omega)]
    rw [fr_id]
    exact ih (q + 1) _ (by omega) (by omega) (by simpa using hol) (all_set hon _ (pl_num (all_at hon _) (all_at hnum _)))
theorem scatter_ev (ds data : List Int) (a : Int) (idx : List Int) (n : Int) (h1 : ds.length ≤ 1048576) (h2 : data.length ≤ 1048576) (h3 : idx.length ≤ 1048576) : ∃ x y, Ev (fun k => spec_Scatter.f k ds data a idx n) (x, y) ∧ Ev (fun k => impl_Scatter.f k ds data a idx n) (x, y) ∧ x.length ≤ 1048576 ∧ y.length ≤ 1048576 := by
  unfold spec_Scatter.f impl_Scatter.f impl_movedBy.f impl_Scatter_1.f
  dsimp only
  have s := axis_ev ds data a h1 h2
  have t := itens_ev ds data (by omega) (by omega)
  have sj : Ev (fun k => spec_Scatter.j0 k a idx n true ds data) (([] : List Int), ([] : List Int)) := by
    refine Ev.succ ?_
    simp only [spec_Scatter.j0]
    exact Ev.pos (by trivial) (Ev.some rfl)
  have ij : Ev (fun k => impl_scatterPairs.j0 k ds a idx n true) (([] : List Int), ([] : List S113), false) := by
    refine Ev.succ ?_
    simp only [impl_scatterPairs.j0]
    exact Ev.pos (by trivial) (Ev.some rfl)
  cases ht : tensB ds data with
  | false =>
    rw [ht] at s t
    exact ⟨[], [], Ev.bind s (Ev.neg (by simp) sj), Ev.bind (a := (([] : List Int), ([] : List Int))) (Ev.bind t (Ev.neg (by simp) (Ev.some rfl))) (Ev.some rfl), by simp, by simp⟩
  | true =>
    have none_ : Ev (fun k => impl_scatterPairs.f k ds a idx n) (([] : List Int), ([] : List S113), false) → Ev (fun k => ((impl_TensorOk.f k ds data).bind fun t271 => (if t271 = true then ((impl_scatterPairs.f k ds a idx n).bind fun bt272 => (if bt272.2.2 = true then ((impl_moved.f k data bt272.1 bt272.2.1).bind fun bt279 => (some (bt279.1, bt279.2))) else (some (([] : List Int), ([] : List Int))))) else (some (([] : List Int), ([] : List Int))))).bind fun bt287 => some (bt287.1, bt287.2)) (([] : List Int), ([] : List Int)) := by
      intro h
      rw [ht] at t
      exact Ev.bind (a := (([] : List Int), ([] : List Int))) (Ev.bind t (Ev.pos rfl (Ev.bind h (Ev.neg (by simp) (Ev.some rfl))))) (Ev.some rfl)
    cases hx : (decide (0 ≤ a) && decide (a < (ds.length : Int))) with
    | false =>
      rw [ht, hx] at s
      have ia := isAxis_f ds a
      rw [hx] at ia
      refine ⟨[], [], Ev.bind s (Ev.neg (by simp) sj), none_ ?_, by simp, by simp⟩
      unfold impl_scatterPairs.f
      exact Ev.b ia (Ev.neg (by simp) ij)
    | true =>
      rw [ht, hx] at s
      have ia := isAxis_f ds a
      rw [hx] at ia
      simp only [Bool.and_eq_true, decide_eq_true_eq] at hx
      obtain ⟨b, rfl⟩ := Int.eq_ofNat_of_zero_le hx.1
      have hb : b < ds.length := by omega
      have ht' := ht
      unfold tensB dimsB at ht'
      simp only [Bool.and_eq_true, decide_eq_true_eq] at ht'
      obtain ⟨⟨hl6, hr⟩, hd, hnum⟩ := ht'
      have hrun := run_all hr
      have hdd : ds.getD b 0 = ds[b] := by rw [List.getD_eq_getElem?_getD, List.getElem?_eq_getElem hb, Option.getD_some]
      have hdb := hrun _ (List.getElem_mem hb)
      obtain ⟨l, el⟩ := Int.eq_ofNat_of_zero_le (by omega : 0 ≤ ds.getD b 0)
      have hrb : rd ds (b : Int) = (l : Int) := by rw [rd, Int.toNat_natCast]; exact el
      by_cases hz : ¬ (idx.length : Int) = (l : Int)
      · refine ⟨[], [], Ev.bind s (Ev.pos rfl (Ev.pos (by omega) (Ev.pos (by omega) ?_))), none_ ?_, by simp, by simp⟩
        · rw [hrb]
          exact Ev.neg hz sj
        · unfold impl_scatterPairs.f
          rw [hrb]
          exact Ev.b ia (Ev.pos rfl (Ev.pos (by omega) (Ev.pos (by omega) (Ev.neg hz ij))))
      have hz : (idx.length : Int) = (l : Int) := Decidable.not_not.1 hz
      have w := within_ev idx n (by omega)
      have sw : ∀ {r}, Ev (fun k => spec_Scatter.j0 k (b : Int) idx n (!(idx.all (inB n))) ds data) r → Ev (fun k => (spec_l4Axis.f k ds data (b : Int)).bind fun t184 => (if t184 = true then (if 0 ≤ (b : Int) then (if (b : Int) < (ds.length : Int) then (if (idx.length : Int) = (rd ds (b : Int)) then ((spec_l4Within.f k idx n).bind fun t186 => (spec_Scatter.j0 k (b : Int) idx n (!t186) ds data)) else (spec_Scatter.j0 k (b : Int) idx n true ds data)) else (none)) else (none)) else (spec_Scatter.j0 k (b : Int) idx n true ds data))) r := by
        intro r h
        rw [hrb]
        exact Ev.bind s (Ev.pos rfl (Ev.pos (by omega) (Ev.pos (by omega) (Ev.pos hz (Ev.bind w h)))))
      by_cases hn1 : n < 1
      · have hno : idx.all (inB n) = false := by
          rw [Bool.eq_false_iff]
          intro h
          have := in_at h 0 (by omega)
          omega
        refine ⟨[], [], sw (by rw [hno]; exact sj), none_ ?_, by simp, by simp⟩
        unfold impl_scatterPairs.f
        rw [hrb, decide_eq_true hn1]
        exact Ev.b ia (Ev.pos rfl (Ev.pos (by omega) (Ev.pos (by omega) (Ev.pos hz ij))))
      obtain ⟨m, rfl⟩ := Int.eq_ofNat_of_zero_le (by omega : 0 ≤ n)
      have sd := sdims_ev (ds.set b (m : Int)) (by simp; omega)
      have dd := idims_ev (ds.set b (m : Int)) (by simp; omega)
      have sno : dimsB (ds.set b (m : Int)) = false → Ev (fun k => spec_Scatter.j0 k (b : Int) idx (m : Int) (!(idx.all (inB m))) ds data) (([] : List Int), ([] : List Int)) := by
        intro h
        cases hw : idx.all (inB m) with
        | false => exact sj
        | true =>
          refine Ev.succ ?_
          simp only [spec_Scatter.j0]
          rw [h] at sd
          exact Ev.neg (by simp) (Ev.b (with_f ds b _ hb (by omega)) (Ev.bind sd (Ev.neg (by simp) (Ev.some rfl))))
      have loop : ∀ R, (idx.all (inB m) = true → Ev (fun k => (impl_with.f ds (b : Int) (m : Int)).bind fun t241 => ((impl_DimsOk.f k t241).bind fun t244 => (if t244 = true then ((impl_along.f k ds (b : Int) (m : Int) (listM idx.length id (ixf idx))).bind fun t245 => (some (t241, t245, true))) else (some (([] : List Int), ([] : List S113), false))))) R) → (idx.all (inB m) = false → R = ([], [], false)) → Ev (fun k => impl_scatterPairs.f k ds (b : Int) idx (m : Int)) R := by
        intro R g1 g0
        unfold impl_scatterPairs.f
        rw [hrb, decide_eq_false hn1]
        refine Ev.b ia (Ev.pos rfl (Ev.pos (by omega) (Ev.pos (by omega) (Ev.pos hz (Ev.succ ?_)))))
        simp only [impl_scatterPairs.j0]
        exact Ev.neg (by simp) (sp_l ds idx b (m : Int) (by omega) R g1 g0 idx.length 0 (by omega) (by omega) (by simp))
      have iw := iwith_f ds b (m : Int) hb (by omega)
      cases hw : idx.all (inB m) with
      | false => exact ⟨[], [], sw (by rw [hw]; exact sj), none_ (loop _ (fun h => by simp_all) (fun _ => rfl)), by simp, by simp⟩
      | true =>
        cases hdb' : dimsB (ds.set b (m : Int)) with
        | false =>
          refine ⟨[], [], sw (sno hdb'), none_ (loop _ (fun _ => ?_) (fun h => by simp_all)), by simp, by simp⟩
          rw [hdb'] at dd
          exact Ev.b iw (Ev.bind dd (Ev.neg (by simp) (Ev.some rfl)))
        | true =>
          have hdb2 := hdb'
          unfold dimsB at hdb2
          simp only [Bool.and_eq_true, decide_eq_true_eq] at hdb2
          have hr' := hdb2.2
          have p' := prod_le hr' 0
          have p := prod_le hr 0
          rw [List.drop_zero] at p p'
          have pt := prod_pos (run_take b hr)
          have pB := prod_le hr (b + 1)
          obtain ⟨A, eA⟩ := Int.eq_ofNat_of_zero_le (by omega : 0 ≤ prod (ds.take b))
          obtain ⟨B, eB⟩ := Int.eq_ofNat_of_zero_le (by omega : 0 ≤ prod (ds.drop (b + 1)))
          have sp := prod_split b ds hb
          have sp' := prod_set ds b (m : Int) hb
          rw [eA, eB, el] at sp
          rw [eA, eB] at sp'
          have hN : data.length = A * l * B := by
            rw [sp] at hd
            exact_mod_cast hd
          have hN' : prod (ds.set b (m : Int)) = ((A * m * B : Nat) : Int) := by
            rw [sp']
            push_cast
            rfl
          have hA0 : 1 ≤ A := by omega
          have hB0 : 1 ≤ B := by omega
          have hl0 : 1 ≤ l := by omega
          have k1 : A * 1 ≤ A * l := Nat.mul_le_mul_left _ hl0
          have k2 : A * l * 1 ≤ A * l * B := Nat.mul_le_mul_left _ hB0
          have hil : idx.length = l := by omega
          have hf : ∀ q < l, ixf idx q < m := fun q hq => by
            have := in_at hw q (by omega)
            unfold ixf
            omega
          have al := along_ev ds b A l m B l id (ixf idx) hl6 hr hb eA el eB (by omega) (by omega) (by omega) (fun p hp => hp) hf (by omega) (by omega) (by omega)
          have hfq : ∀ q < A * l * B, frQ l l B id q < data.length := by
            intro q hq
            rw [fr_id]
            omega
          have hgq : ∀ q < A * l * B, frQ m l B (ixf idx) q < (prod (ds.set b (m : Int))).toNat := fun q hq => by
            have := fr_lt (n := 0) hq hf hB0 hl0
            omega
          have mv := moved_ev (ds.set b (m : Int)) data hdb' (by simpa using h1) hnum (frQ l l B id) (frQ m l B (ixf idx)) (A * l * B) (by omega) hfq hgq
          refine ⟨ds.set b (m : Int), runM (frQ l l B id) (frQ m l B (ixf idx)) data (A * l * B) 0 (List.replicate (prod (ds.set b (m : Int))).toNat 0), sw ?_, ?_, by simpa using h1, by rw [runM_len]; simp; omega⟩
          · refine Ev.succ ?_
            simp only [spec_Scatter.j0]
            rw [hw]
            rw [hdb'] at sd
            have e := size_ev (ds.set b (m : Int)) (by simp; omega)
            rw [if_pos hr'] at e
            refine Ev.neg (by simp) (Ev.b (with_f ds b _ hb (by omega)) (Ev.bind sd (Ev.pos rfl (Ev.bind (a := (ds.set b (m : Int), List.replicate (prod (ds.set b (m : Int))).toNat 0)) ?_ ?_))))
            · unfold spec_l4New.f
              exact Ev.b (l3Ints_f _ (by simp; omega)) (Ev.bind e (Ev.pos (by omega) (Ev.pos (by omega) (Ev.some rfl))))
            · exact scatter_l0 ds data idx b l m B hl6 hr hr' hb el eB hd hil hw hnum (A * l * B) 0 _ (by omega) (by omega) (by simp; omega) (zeros_num _)
          · rw [ht] at t
            rw [hdb'] at dd
            rw [← hil] at al
            refine Ev.bind (a := (ds.set b (m : Int), runM (frQ l l B id) (frQ m l B (ixf idx)) data (A * l * B) 0 (List.replicate (prod (ds.set b (m : Int))).toNat 0))) (Ev.bind t (Ev.pos rfl (Ev.bind (loop (ds.set b (m : Int), alongM A l m B l id (ixf idx), true) (fun _ => Ev.b iw (Ev.bind dd (Ev.pos rfl (Ev.bind al (Ev.some ?_))))) (fun h => by simp_all)) (Ev.pos rfl (Ev.bind mv (Ev.some rfl)))))) (Ev.some rfl)
            rw [hil]
theorem rest (l0 l1 : List Int) (a : Int) (l2 : List Int) (n : Int) (x y : List Int) (h0 : l0.length ≤ 1048576) (h1 : l1.length ≤ 1048576) (h2 : l2.length ≤ 1048576) (hx : x.length ≤ 1048576) (hy : y.length ≤ 1048576) (hi : Ev (fun k => impl_Scatter.f k l0 l1 a l2 n) (x, y)) : Ev (fun k => laws_FnExactScatter.j0 k a l2 n false l0 l1 x y x y) true := by
  have m := markTensor_ev x y hx hy
  have h : Ev (fun k => laws_heldTensor.f k (ups 1 x.length) (ups (1 + (x.length : Int)) y.length) 1) (1 + (x.length : Int) + y.length) := by
    unfold laws_heldTensor.f
    exact Ev.bind (held_ev x.length 1 (by omega) (by omega)) (Ev.neg (by omega) (Ev.bind (held_ev y.length _ (by omega) (by omega)) (Ev.neg (by omega) (Ev.some rfl))))
  refine Ev.succ ?_
  simp only [laws_FnExactScatter.j0]
  exact Ev.neg (by simp) (Ev.bind m (Ev.bind h (Ev.neg (by omega) (Ev.pos rfl (Ev.bind (toTensor_ev l0 l1 h0 h1) (Ev.bind (toIntS_ev l2 (by omega)) (Ev.bind hi (Ev.bind (eqTensor_ev x y hx hy) (Ev.pos rfl (Ev.bind h (Ev.neg (by omega) (Ev.pos rfl (Ev.some rfl)))))))))))))
theorem FnExactScatter (l0 l1 : List Int) (a : Int) (l2 : List Int) (n : Int) {p q : Int → Prop} (hg : (l0.length ≤ maxLen ∧ ∀ y ∈ l0, p y) ∧ (l1.length ≤ maxLen ∧ ∀ y ∈ l1, q y)) : ∃ k, laws_FnExactScatter.f k l0 l1 a l2 n = some true := by
  have h0 : l0.length ≤ 9223372036854775807 := hg.1.1
  have h1 : l1.length ≤ 9223372036854775807 := hg.2.1
  apply Ev.rounds
  unfold laws_FnExactScatter.f
  refine Ev.ite (fun _ => Ev.some rfl) (fun h2 => ?_)
  have g2 : l2.length ≤ 1048576 := by omega
  obtain ⟨q, hq, hz⟩ := szTensor_f l0 l1 h0 h1
  refine Ev.b hq ?_
  rcases hz with hz | ⟨hz, g0, g1⟩
  · exact Ev.pos hz (Ev.some rfl)
  refine Ev.neg (by omega) ?_
  have t := toTensor_ev l0 l1 g0 g1
  have t2 := toIntS_ev l2 (by omega)
  obtain ⟨x, y, hs, hi, hx, hy⟩ := scatter_ev l0 l1 a l2 n g0 g1 g2
  refine Ev.bind t (Ev.bind t2 (Ev.bind hs (Ev.bind t (Ev.bind t2 (Ev.bind hi (Ev.bind (eqTensor_ev x y hx hy) (Ev.pos rfl (Ev.bind t (Ev.bind (eqTensor_ev l0 l1 g0 g1) (Ev.pos rfl (Ev.bind t2 (Ev.bind (eqIntS_ev l2 (by omega)) (Ev.pos rfl (Ev.bind (markTensor_ev l0 l1 g0 g1) (Ev.bind (mark_ev l2 _ (by simp; omega) (by simp; omega)) (Ev.neg (by simp; omega) (Ev.bind (eqTensor_ev x y hx hy) ?_)))))))))))))))))
  exact rest l0 l1 a l2 n x y g0 g1 g2 hx hy hi
end Go.Proofs.Ytcpemdedmepfeab.PureFnExactScatter
