/- Folding windows back: the program's own answer is the reference's. -/
import Derived.Test.YtcpemdedmepfeabPFnExactFoldx
import Derived.Test.YtcpemdedmepfeabBase
import Derived.Test.YtcpemdedmepfeabVM
namespace Go.Proofs.Ytcpemdedmepfeab.PureFnExactFold
set_option linter.unusedVariables false
set_option linter.unusedSimpArgs false
open Go.RowKit Go.Proofs.Ytcpemdedmepfeab.PFnExactFold Go.Proofs.YtcpemdedmepfeabW.PrintWords Go.Proofs.YtcpemdedmepfeabW.PrintLast Go.Proofs.YtcpemdedmepfeabW.PrintMore Go.Proofs.Ytcpemdedmepfeab.Base Go.Proofs.Ytcpemdedmepfeab.VM
/-! ### lists of whole numbers taken over and held against each other -/
theorem toIntS_l (l : List Int) (hn : l.length ≤ 9223372036854775807) : ∀ (d i : Nat), l.length - i = d → i ≤ l.length → Ev (fun k => laws_toIntS.l0 k l (l.take i ++ List.replicate (l.length - i) 0) (i : Int)) l := by
  intro d
  induction d with
  | zero =>
    intro i hd hi
    refine Ev.succ ?_
    simp only [laws_toIntS.l0]
    refine Ev.neg (by omega) (Ev.some ?_)
    rw [hd, List.take_of_length_le (by omega)]
    simp
  | succ d ih =>
    intro i hd hi
    refine Ev.succ ?_
    simp only [laws_toIntS.l0]
    have hlt : i < l.length := by omega
    refine Ev.pos (by omega) (Ev.pos (by omega) (Ev.pos (by simp; omega) ?_))
    rw [rd_at hlt, up i hlt hn, Int.toNat_natCast, set_copy hlt]
    exact ih (i + 1) (by omega) (by omega)
theorem toIntS_ev (l : List Int) (h : l.length ≤ 35184372088832) : Ev (fun k => laws_toIntS.f k l) l := by
  unfold laws_toIntS.f
  refine Ev.pos (by omega) (Ev.pos (by omega) ?_)
  have := toIntS_l l (by omega) l.length 0 (by omega) (by omega)
  simpa using this
theorem eqIntS_l (l : List Int) (hn : l.length ≤ 9223372036854775807) : ∀ (d i : Nat), l.length - i = d → i ≤ l.length → Ev (fun k => laws_eqIntS.l0 k l l (i : Int)) true := by
  intro d
  induction d with
  | zero =>
    intro i hd hi
    refine Ev.succ ?_
    simp only [laws_eqIntS.l0]
    exact Ev.neg (by omega) (Ev.some rfl)
  | succ d ih =>
    intro i hd hi
    refine Ev.succ ?_
    simp only [laws_eqIntS.l0]
    have hlt : i < l.length := by omega
    refine Ev.pos (by omega) (Ev.pos (by omega) (Ev.pos (by omega) (Ev.pos (by trivial) ?_)))
    rw [up i hlt hn]
    exact ih (i + 1) (by omega) (by omega)
theorem eqIntS_ev (l : List Int) (h : l.length ≤ 9223372036854775807) : Ev (fun k => laws_eqIntS.f k l l) true := by
  unfold laws_eqIntS.f
  exact Ev.pos rfl (eqIntS_l l (by omega) l.length 0 (by omega) (by omega))
/-! ### lengths -/
theorem size_l (l : List Int) (hn : l.length ≤ 9223372036854775807) : ∀ (d i : Nat) (n : Int), l.length - i = d → i ≤ l.length → 1 ≤ n → n ≤ 4096 → Ev (fun k => spec_l3Size.l0 k l n (i : Int)) (if runOk n (l.drop i) = true then n * prod (l.drop i) else 0) := by
  intro d
  induction d with
  | zero =>
    intro i n hd hi h0 h1
    refine Ev.succ ?_
    simp only [spec_l3Size.l0]
    refine Ev.neg (by omega) (Ev.some ?_)
    rw [List.drop_eq_nil_of_le (by omega)]
    simp [runOk, prod]
  | succ d ih =>
    intro i n hd hi h0 h1
    have hlt : i < l.length := by omega
    refine Ev.succ ?_
    simp only [spec_l3Size.l0]
    refine Ev.pos (by omega) (Ev.pos (by omega) ?_)
    rw [rd_at hlt, drop_at hlt]
    refine Ev.ite (fun h => Ev.succ ?_) (fun h => Ev.succ ?_)
    · simp only [spec_l3Size.j1]
      refine Ev.pos (by trivial) (Ev.some ?_)
      simp [runOk, h]
    · simp only [spec_l3Size.j1]
      by_cases h2 : 4096 < l[i]
      · refine Ev.pos (by simpa using h2) (Ev.some ?_)
        simp [runOk, h, h2]
      · have p1 : n * l[i] ≤ 4096 * 4096 := Int.mul_le_mul h1 (by omega) (by omega) (by omega)
        have p0 : 1 * 1 ≤ n * l[i] := Int.mul_le_mul h0 (by omega) (by omega) (by omega)
        refine Ev.neg (by simpa using h2) (Ev.pos (by omega) (Ev.pos (by omega) ?_))
        rw [rd_at hlt, wrap_id (by omega : -9223372036854775808 ≤ n * l[i]) (by omega), up i hlt hn]
        refine Ev.ite (fun h3 => Ev.some ?_) (fun h3 => ?_)
        · simp [runOk, h, h2, show 4096 < n * l[i] from h3]
        · have e : runOk n (l[i] :: l.drop (i + 1)) = runOk (n * l[i]) (l.drop (i + 1)) := by
            simp [runOk, h, h2, show ¬ 4096 < n * l[i] from h3]
          rw [e]
          simp only [prod]
          rw [← Int.mul_assoc]
          exact ih (i + 1) _ (by omega) (by omega) (by omega) (by omega)
theorem size_ev (l : List Int) (hn : l.length ≤ 9223372036854775807) : Ev (fun k => spec_l3Size.f k l) (if runOk 1 l = true then prod l else 0) := by
  have := size_l l hn l.length 0 1 (by omega) (by omega) (by omega) (by omega)
  rw [Int.one_mul] at this
  exact this
/-- Lengths that can be. -/
def dimsB (l : List Int) : Bool := decide (l.length ≤ 6) && runOk 1 l
theorem sdims_ev (l : List Int) (hn : l.length ≤ 9223372036854775807) : Ev (fun k => spec_DimsOk.f k l) (dimsB l) := by
  unfold spec_DimsOk.f dimsB
  refine Ev.ite (fun h => Ev.bind (size_ev l hn) (Ev.some ?_)) (fun h => Ev.some ?_)
  · rw [show decide (l.length ≤ 6) = true from decide_eq_true (by omega), Bool.true_and]
    cases hr : runOk 1 l with
    | true =>
      have := prod_pos hr
      simp
      omega
    | false => simp
  · rw [show decide (l.length ≤ 6) = false from decide_eq_false (by omega)]
    rfl
theorem idims_l (l : List Int) (hn : l.length ≤ 9223372036854775807) : ∀ (d i : Nat) (n : Int), l.length - i = d → i ≤ l.length → 1 ≤ n → n ≤ 4096 → Ev (fun k => impl_DimsOk.l0 k l n l (l.length : Int) (i : Int)) (decide (l.length ≤ 6) && runOk n (l.drop i)) := by
  intro d
  induction d with
  | zero =>
    intro i n hd hi h0 h1
    refine Ev.succ ?_
    simp only [impl_DimsOk.l0]
    refine Ev.neg (by omega) (Ev.some ?_)
    rw [List.drop_eq_nil_of_le (by omega)]
    simp only [runOk, Bool.and_true]
    exact decide_eq_decide.2 (by omega)
  | succ d ih =>
    intro i n hd hi h0 h1
    have hlt : i < l.length := by omega
    refine Ev.succ ?_
    simp only [impl_DimsOk.l0]
    refine Ev.pos (by omega) (Ev.pos (by omega) (Ev.pos (by omega) ?_))
    rw [rd_at hlt, drop_at hlt]
    refine Ev.ite (fun h => Ev.succ ?_) (fun h => Ev.succ ?_)
    · simp only [impl_DimsOk.j1]
      refine Ev.pos (by trivial) (Ev.some ?_)
      simp [runOk, h]
    · simp only [impl_DimsOk.j1]
      by_cases h2 : 4096 < l[i]
      · refine Ev.pos (by simpa using h2) (Ev.some ?_)
        simp [runOk, h, h2]
      · have p1 : n * l[i] ≤ 4096 * 4096 := Int.mul_le_mul h1 (by omega) (by omega) (by omega)
        have p0 : 1 * 1 ≤ n * l[i] := Int.mul_le_mul h0 (by omega) (by omega) (by omega)
        refine Ev.neg (by simpa using h2) ?_
        rw [wrap_id (by omega : -9223372036854775808 ≤ n * l[i]) (by omega), up i hlt hn]
        refine Ev.ite (fun h3 => Ev.some ?_) (fun h3 => ?_)
        · simp [runOk, h, h2, show 4096 < n * l[i] from h3]
        · have e : runOk n (l[i] :: l.drop (i + 1)) = runOk (n * l[i]) (l.drop (i + 1)) := by
            simp [runOk, h, h2, show ¬ 4096 < n * l[i] from h3]
          rw [e]
          exact ih (i + 1) _ (by omega) (by omega) (by omega) (by omega)
theorem idims_ev (l : List Int) (hn : l.length ≤ 9223372036854775807) : Ev (fun k => impl_DimsOk.f k l) (dimsB l) := idims_l l hn l.length 0 1 (by omega) (by omega) (by omega) (by omega)
theorem product_l (l : List Int) (hn : l.length ≤ 9223372036854775807) : ∀ (d i : Nat) (n : Int), l.length - i = d → i ≤ l.length → 1 ≤ n → n ≤ 4096 → runOk n (l.drop i) = true → Ev (fun k => impl_product.l0 k n l (l.length : Int) (i : Int)) (n * prod (l.drop i)) := by
  intro d
  induction d with
  | zero =>
    intro i n hd hi h0 h1 hr
    refine Ev.succ ?_
    simp only [impl_product.l0]
    refine Ev.neg (by omega) (Ev.some ?_)
    rw [List.drop_eq_nil_of_le (by omega)]
    simp [prod]
  | succ d ih =>
    intro i n hd hi h0 h1 hr
    have hlt : i < l.length := by omega
    rw [drop_at hlt] at hr ⊢
    obtain ⟨h2, h3, h4, h5⟩ := runOk_cons hr
    have p0 : 1 * 1 ≤ n * l[i] := Int.mul_le_mul h0 h2 (by omega) (by omega)
    refine Ev.succ ?_
    simp only [impl_product.l0]
    refine Ev.pos (by omega) (Ev.pos (by omega) (Ev.pos (by omega) ?_))
    rw [rd_at hlt, up i hlt hn, wrap_id (by omega : -9223372036854775808 ≤ n * l[i]) (by omega)]
    simp only [prod]
    rw [← Int.mul_assoc]
    exact ih (i + 1) _ (by omega) (by omega) (by omega) h4 h5
theorem product_ev (l : List Int) (hn : l.length ≤ 9223372036854775807) (hr : runOk 1 l = true) : Ev (fun k => impl_product.f k l) (prod l) := by
  have := product_l l hn l.length 0 1 (by omega) (by omega) (by omega) (by omega) hr
  rw [Int.one_mul] at this
  exact this
/-! ### marks: written into what was made, and found there again -/
def ups (a : Int) : Nat → List Int
  | 0 => []
  | n + 1 => a :: ups (a + 1) n
theorem ups_len : ∀ (n : Nat) (a : Int), (ups a n).length = n
  | 0, _ => rfl
  | n + 1, a => by simp [ups, ups_len n]
theorem ups_at : ∀ (n : Nat) (a : Int) (i : Nat) (h : i < (ups a n).length), (ups a n)[i] = a + i
  | 0, _, _, h => by simp [ups] at h
  | n + 1, a, 0, _ => by simp [ups]
  | n + 1, a, i + 1, h => by
    simp only [ups, List.getElem_cons_succ]
    rw [ups_at n (a + 1) i (by simpa [ups] using h)]
    omega
theorem set_over {β : Type} {L l : List β} {i : Nat} (h : i < L.length) (hl : l.length = L.length) : (L.take i ++ l.drop i).set i L[i] = L.take (i + 1) ++ l.drop (i + 1) := by
  have h' : i < l.length := by omega
  rw [List.drop_eq_getElem_cons h', List.set_append_right _ _ (by simp; omega), List.length_take, Nat.min_eq_left (by omega), Nat.sub_self, List.set_cons_zero, List.take_succ_eq_append_getElem h, List.append_assoc]
  rfl
theorem mark_l (l : List Int) (a : Int) (h0 : 0 ≤ a) (h1 : a + l.length ≤ 4611686018427387904) : ∀ (d i : Nat), l.length - i = d → i ≤ l.length → Ev (fun k => laws_markIntS.l0 k ((ups a l.length).take i ++ l.drop i) (a + i) (i : Int)) (a + l.length, ups a l.length) := by
  intro d
  induction d with
  | zero =>
    intro i hd hi
    refine Ev.succ ?_
    simp only [laws_markIntS.l0]
    have e : (ups a l.length).take i ++ l.drop i = ups a l.length := by
      rw [List.drop_eq_nil_of_le (by omega), List.append_nil, List.take_of_length_le (by rw [ups_len]; omega)]
    rw [e]
    exact Ev.neg (by rw [ups_len]; omega) (Ev.some (by rw [show i = l.length by omega]))
  | succ d ih =>
    intro i hd hi
    refine Ev.succ ?_
    simp only [laws_markIntS.l0]
    have hu : i < (ups a l.length).length := by rw [ups_len]; omega
    refine Ev.pos (by simp [ups_len]; omega) (Ev.pos (by omega) ?_)
    have e := set_over hu (l := l) (by rw [ups_len])
    rw [ups_at l.length a i hu] at e
    rw [Int.toNat_natCast, e, up i (by omega : i < l.length) (by omega), wrap_id (by omega) (by omega), show a + (i : Int) + 1 = a + ((i + 1 : Nat) : Int) by omega]
    exact ih (i + 1) (by omega) (by omega)
theorem mark_ev (l : List Int) (a : Int) (h0 : 0 ≤ a) (h1 : a + l.length ≤ 4611686018427387904) : Ev (fun k => laws_markIntS.f k l a) (a + l.length, ups a l.length) := by
  unfold laws_markIntS.f
  have := mark_l l a h0 h1 l.length 0 (by omega) (by omega)
  simpa using this
/-! ### tensors that can be -/
def numB (x : Int) : Bool := decide (0 ≤ x) && decide (x < 2147483647)
def tensB (dims data : List Int) : Bool := dimsB dims && (decide ((data.length : Int) = prod dims) && data.all numB)
theorem stens_l (dims l : List Int) (hn : l.length ≤ 9223372036854775807) : ∀ (d i : Nat), l.length - i = d → i ≤ l.length → Ev (fun k => spec_TensorOk.l0 k (i : Int) dims l) ((l.drop i).all numB) := by
  intro d
  induction d with
  | zero =>
    intro i hd hi
    refine Ev.succ ?_
    simp only [spec_TensorOk.l0]
    refine Ev.neg (by omega) (Ev.some ?_)
    rw [List.drop_eq_nil_of_le (by omega)]
    rfl
  | succ d ih =>
    intro i hd hi
    have hlt : i < l.length := by omega
    refine Ev.succ ?_
    simp only [spec_TensorOk.l0]
    refine Ev.pos (by omega) (Ev.pos (by omega) ?_)
    rw [rd_at hlt, drop_at hlt, List.all_cons, up i hlt hn]
    refine Ev.ite (fun h => Ev.some ?_) (fun h => Ev.ite (fun h2 => Ev.some ?_) (fun h2 => ?_))
    · simp [numB, show ¬ (0 ≤ l[i]) by omega]
    · simp [numB, show ¬ (l[i] < 2147483647) by omega]
    · rw [show numB l[i] = true by simp [numB]; omega, Bool.true_and]
      exact ih (i + 1) (by omega) (by omega)
theorem stens_ev (dims l : List Int) (hd : dims.length ≤ 9223372036854775807) (hn : l.length ≤ 9223372036854775807) : Ev (fun k => spec_TensorOk.f k dims l) (tensB dims l) := by
  unfold spec_TensorOk.f tensB
  refine Ev.bind (sdims_ev dims hd) ?_
  cases hb : dimsB dims with
  | false =>
    refine Ev.neg (by simp) (Ev.succ ?_)
    simp only [spec_TensorOk.j0]
    exact Ev.pos (by trivial) (Ev.some rfl)
  | true =>
    have hb' := hb
    unfold dimsB at hb'
    simp only [Bool.and_eq_true, decide_eq_true_eq] at hb'
    have e := size_ev dims hd
    rw [if_pos hb'.2] at e
    refine Ev.pos rfl (Ev.bind e (Ev.succ ?_))
    simp only [spec_TensorOk.j0, Bool.true_and]
    by_cases h : (l.length : Int) = prod dims
    · refine Ev.neg (by simpa using h) ?_
      rw [decide_eq_true h, Bool.true_and]
      exact stens_l dims l hn l.length 0 (by omega) (by omega)
    · refine Ev.pos (by simpa using h) (Ev.some ?_)
      rw [decide_eq_false h]
      rfl
theorem isnum_f (x : Int) : impl_isNum.f x = some (numB x) := by
  unfold impl_isNum.f numB
  split
  · next h => rw [decide_eq_true (show 0 ≤ x by omega), Bool.true_and]
  · next h => rw [decide_eq_false (show ¬ 0 ≤ x by omega), Bool.false_and]
theorem nums_l (l : List Int) (hn : l.length ≤ 9223372036854775807) : ∀ (d i : Nat), l.length - i = d → i ≤ l.length → Ev (fun k => impl_allNums.l0 k l (l.length : Int) (i : Int)) ((l.drop i).all numB) := by
  intro d
  induction d with
  | zero =>
    intro i hd hi
    refine Ev.succ ?_
    simp only [impl_allNums.l0]
    refine Ev.neg (by omega) (Ev.some ?_)
    rw [List.drop_eq_nil_of_le (by omega)]
    rfl
  | succ d ih =>
    intro i hd hi
    have hlt : i < l.length := by omega
    refine Ev.succ ?_
    simp only [impl_allNums.l0]
    refine Ev.pos (by omega) (Ev.pos (by omega) (Ev.pos (by omega) ?_))
    rw [rd_at hlt, drop_at hlt, List.all_cons, up i hlt hn]
    refine Ev.b (isnum_f _) ?_
    cases numB l[i] with
    | false => exact Ev.neg (by simp) (Ev.some rfl)
    | true => exact Ev.pos rfl (ih (i + 1) (by omega) (by omega))
theorem nums_ev (l : List Int) (hn : l.length ≤ 9223372036854775807) : Ev (fun k => impl_allNums.f k l) (l.all numB) := by
  unfold impl_allNums.f
  exact nums_l l hn l.length 0 (by omega) (by omega)
theorem itens_ev (dims l : List Int) (hd : dims.length ≤ 9223372036854775807) (hn : l.length ≤ 9223372036854775807) : Ev (fun k => impl_TensorOk.f k dims l) (tensB dims l) := by
  unfold impl_TensorOk.f tensB
  refine Ev.bind (idims_ev dims hd) ?_
  cases hb : dimsB dims with
  | false => exact Ev.neg (by simp) (Ev.some rfl)
  | true =>
    have hb' := hb
    unfold dimsB at hb'
    simp only [Bool.and_eq_true, decide_eq_true_eq] at hb'
    refine Ev.pos rfl (Ev.bind (product_ev dims hd hb'.2) ?_)
    rw [Bool.true_and]
    refine Ev.ite (fun h => ?_) (fun h => ?_)
    · rw [decide_eq_true h, Bool.true_and]
      exact Ev.bind (nums_ev l hn) (Ev.some rfl)
    · rw [decide_eq_false h]
      exact Ev.some rfl
theorem toTensor_ev (a b : List Int) (ha : a.length ≤ 1048576) (hb : b.length ≤ 1048576) : Ev (fun k => laws_toTensor.f k a b) (a, b) := by
  unfold laws_toTensor.f
  exact Ev.bind (toIntS_ev a (by omega)) (Ev.bind (toIntS_ev b (by omega)) (Ev.some rfl))
theorem eqTensor_ev (a b : List Int) (ha : a.length ≤ 1048576) (hb : b.length ≤ 1048576) : Ev (fun k => laws_eqTensor.f k a b a b) true := by
  unfold laws_eqTensor.f
  exact Ev.bind (eqIntS_ev a (by omega)) (Ev.pos rfl (Ev.bind (eqIntS_ev b (by omega)) (Ev.pos rfl (Ev.some rfl))))
theorem markTensor_ev (a b : List Int) (ha : a.length ≤ 1048576) (hb : b.length ≤ 1048576) : Ev (fun k => laws_markTensor.f k a b 1) (1 + (a.length : Int) + b.length, ups 1 a.length, ups (1 + (a.length : Int)) b.length) := by
  unfold laws_markTensor.f
  exact Ev.bind (mark_ev a 1 (by omega) (by omega)) (Ev.bind (mark_ev b _ (by omega) (by omega)) (Ev.some rfl))
theorem szTensor_f (a b : List Int) (ha : a.length ≤ 9223372036854775807) (hb : b.length ≤ 9223372036854775807) : ∃ q, laws_szTensor.f a b 1048576 = some q ∧ (q < 0 ∨ (0 ≤ q ∧ a.length ≤ 1048576 ∧ b.length ≤ 1048576)) := by
  unfold laws_szTensor.f laws_szIntS.f
  rw [wrap_id (by omega) (by omega)]
  by_cases h : (1048576 : Int) - (a.length : Int) < 0
  · rw [if_pos h, Option.bind_some, if_pos (by omega)]
    exact ⟨_, rfl, .inl (by omega)⟩
  · rw [if_neg h, Option.bind_some, if_neg h, wrap_id (by omega) (by omega)]
    by_cases h2 : (1048576 : Int) - (a.length : Int) - (b.length : Int) < 0
    · rw [if_pos h2, Option.bind_some, if_pos (by omega)]
      exact ⟨_, rfl, .inl (by omega)⟩
    · rw [if_neg h2, Option.bind_some, if_neg h2]
      exact ⟨_, rfl, .inr ⟨by omega, by omega, by omega⟩⟩
theorem held_l (n : Nat) (a : Int) (h0 : 0 ≤ a) (h1 : a + n ≤ 4611686018427387904) : ∀ (d i : Nat), n - i = d → i ≤ n → Ev (fun k => laws_heldIntS.l0 k (ups a n) (a + i) (i : Int)) (a + n) := by
  intro d
  induction d with
  | zero =>
    intro i hd hi
    refine Ev.succ ?_
    simp only [laws_heldIntS.l0]
    exact Ev.neg (by rw [ups_len]; omega) (Ev.some (by rw [show i = n by omega]))
  | succ d ih =>
    intro i hd hi
    refine Ev.succ ?_
    simp only [laws_heldIntS.l0]
    have hu : i < (ups a n).length := by rw [ups_len]; omega
    refine Ev.pos (by omega) (Ev.pos (by omega) ?_)
    rw [rd_at hu, ups_at n a i hu, up i (by omega : i < n) (by omega), wrap_id (by omega) (by omega), show a + (i : Int) + 1 = a + ((i + 1 : Nat) : Int) by omega]
    exact Ev.pos rfl (ih (i + 1) (by omega) (by omega))
theorem held_ev (n : Nat) (a : Int) (h0 : 0 ≤ a) (h1 : a + n ≤ 4611686018427387904) : Ev (fun k => laws_heldIntS.f k (ups a n) a) (a + n) := by
  unfold laws_heldIntS.f
  have := held_l n a h0 h1 n 0 (by omega) (by omega)
  simpa using this
theorem clone_f (l : List Int) (h : l.length < 17592186044416) : slices_Clone_int_int.f l = some l := by
  unfold slices_Clone_int_int.f
  rw [if_pos h]
/-! ### indexes in order, and their places -/
theorem index_l (l : List Int) (hn : l.length ≤ 6) (hd : ∀ d ∈ l, 1 ≤ d) (k0 : Int) (hk : 0 ≤ k0) (hk' : k0 ≤ 9223372036854775807) : ∀ (i : Nat), i ≤ l.length →
    Ev (fun k => spec_l3Index.l0 k l (idxs (l.drop i) k0).2 (List.replicate i 0 ++ (idxs (l.drop i) k0).1) ((i : Int) - 1)) (idxs l k0).1 := by
  intro i
  induction i with
  | zero =>
    intro hi
    refine Ev.succ ?_
    simp only [spec_l3Index.l0]
    refine Ev.neg (by omega) (Ev.some ?_)
    simp
  | succ i ih =>
    intro hi
    have hlt : i < l.length := by omega
    have hdi := hd _ (List.getElem_mem hlt)
    have hnn : 0 ≤ (idxs (l.drop (i + 1)) k0).2 := idxs_nonneg (fun d hm => hd d (List.mem_of_mem_drop hm)) hk
    have hle : (idxs (l.drop (i + 1)) k0).2 ≤ k0 := by
      have o := ord_idxs (ds := l.drop (i + 1)) (fun d hm => hd d (List.mem_of_mem_drop hm)) hk
      obtain ⟨o1, o2⟩ := ord_lt (ds := l.drop (i + 1)) (fun d hm => hd d (List.mem_of_mem_drop hm)) (idxs_in (fun d hm => hd d (List.mem_of_mem_drop hm)) hk)
      have p : (idxs (l.drop (i + 1)) k0).2 * 1 ≤ (idxs (l.drop (i + 1)) k0).2 * prod (l.drop (i + 1)) := Int.mul_le_mul_of_nonneg_left (by omega) hnn
      omega
    have hq : 0 ≤ (idxs (l.drop (i + 1)) k0).2 / l[i] := Int.ediv_nonneg hnn (by omega)
    have hq' : (idxs (l.drop (i + 1)) k0).2 / l[i] ≤ (idxs (l.drop (i + 1)) k0).2 := Int.ediv_le_self _ hnn
    refine Ev.succ ?_
    simp only [spec_l3Index.l0]
    have e1 : ((i + 1 : Nat) : Int) - 1 = (i : Int) := by omega
    rw [e1]
    refine Ev.pos (by omega) (Ev.pos (by omega) (Ev.pos (by omega) ?_))
    rw [rd_at hlt]
    refine Ev.neg (by omega) (Ev.pos (by simp [idxs_len]; omega) ?_)
    rw [wrap_id (by omega : -9223372036854775808 ≤ (i : Int) - 1) (by omega), Int.tdiv_eq_ediv_of_nonneg hnn, Int.tmod_eq_emod_of_nonneg hnn, wrap_id (by omega : -9223372036854775808 ≤ (idxs (l.drop (i + 1)) k0).2 / l[i]) (by omega), Int.toNat_natCast]
    have ih := ih (by omega)
    rw [drop_at hlt] at ih
    simp only [idxs] at ih
    have e2 : (List.replicate (i + 1) (0 : Int) ++ (idxs (l.drop (i + 1)) k0).1).set i ((idxs (l.drop (i + 1)) k0).2 % l[i]) = List.replicate i 0 ++ ((idxs (l.drop (i + 1)) k0).2 % l[i] :: (idxs (l.drop (i + 1)) k0).1) := by
      rw [show List.replicate (i + 1) (0 : Int) = List.replicate i 0 ++ [0] from List.replicate_succ', List.append_assoc, List.set_append_right _ _ (by simp)]
      simp
    rw [e2]
    exact ih
theorem index_ev (l : List Int) (hn : l.length ≤ 6) (hd : ∀ d ∈ l, 1 ≤ d) (k0 : Int) (hk : 0 ≤ k0) (hk' : k0 ≤ 9223372036854775807) : Ev (fun k => spec_l3Index.f k l k0) (idxs l k0).1 := by
  unfold spec_l3Index.f
  refine Ev.pos (by omega) (Ev.pos (by omega) ?_)
  have := index_l l hn hd k0 hk hk' l.length (by omega)
  rw [List.drop_length] at this
  simp only [idxs, List.append_nil] at this
  rw [wrap_id (by omega) (by omega)]
  exact this
/-! ### a place along an axis: what stands before, along and behind -/
theorem prod_split : ∀ (a : Nat) (ds : List Int) (_ : a < ds.length), prod ds = prod (ds.take a) * ds.getD a 0 * prod (ds.drop (a + 1))
  | 0, d :: ds, _ => by simp [prod]
  | a + 1, d :: ds, h => by
    have ih := prod_split a ds (by simpa using h)
    simp only [List.take_succ_cons, List.drop_succ_cons, List.getD_cons_succ, prod]
    rw [ih]
    grind
theorem ord_split : ∀ (a : Nat) (ds xs : List Int) (_ : a < ds.length) (_ : xs.length = ds.length), ord ds xs = (ord (ds.take a) (xs.take a) * ds.getD a 0 + xs.getD a 0) * prod (ds.drop (a + 1)) + ord (ds.drop (a + 1)) (xs.drop (a + 1))
  | 0, d :: ds, x :: xs, _, _ => by
    simp [ord]
  | a + 1, d :: ds, x :: xs, h, hl => by
    have ih := ord_split a ds xs (by simpa using h) (by simpa using hl)
    have ip := prod_split a ds (by simpa using h)
    simp only [List.take_succ_cons, List.drop_succ_cons, List.getD_cons_succ, ord]
    rw [ih, ip]
    grind
/-- Setting one place of an index moves its place in the order by so many steps. -/
theorem ord_set (a : Nat) (ds xs : List Int) (h : a < ds.length) (hl : xs.length = ds.length) (v : Int) : ord ds (xs.set a v) = (ord (ds.take a) (xs.take a) * ds.getD a 0 + v) * prod (ds.drop (a + 1)) + ord (ds.drop (a + 1)) (xs.drop (a + 1)) := by
  rw [ord_split a ds (xs.set a v) h (by simpa using hl)]
  have e1 : (xs.set a v).take a = xs.take a := by rw [List.take_set_of_le (Nat.le_refl a)]
  have e2 : (xs.set a v).drop (a + 1) = xs.drop (a + 1) := by rw [List.drop_set_of_lt (by omega)]
  have e3 : (xs.set a v).getD a 0 = v := by
    rw [List.getD_eq_getElem?_getD, List.getElem?_set_self (by omega), Option.getD_some]
  rw [e1, e2, e3]
/-! ### the reference's lines along an axis -/
theorem inD_at : ∀ {ds xs : List Int}, inD ds xs → ∀ (i : Nat) (h : i < ds.length) (h' : i < xs.length), 0 ≤ xs[i] ∧ xs[i] < ds[i]
  | [], [], _, i, h, _ => by simp at h
  | d :: ds, x :: xs, hi, i, h, h' => by
    cases i with
    | zero => exact ⟨hi.1, hi.2.1⟩
    | succ i =>
      simp only [List.getElem_cons_succ]
      exact inD_at hi.2.2 i (by simpa using h) (by simpa using h')
  | [], _ :: _, h, _, _, _ => h.elim
  | _ :: _, [], h, _, _, _ => h.elim
theorem inD_set : ∀ {ds xs : List Int}, inD ds xs → ∀ (a : Nat) (v : Int) (_ : a < ds.length), 0 ≤ v → v < ds.getD a 0 → inD ds (xs.set a v)
  | [], [], _, a, _, h, _, _ => by simp at h
  | d :: ds, x :: xs, hi, a, v, h, h0, h1 => by
    cases a with
    | zero => exact ⟨h0, by simpa using h1, hi.2.2⟩
    | succ a => exact ⟨hi.1, hi.2.1, inD_set hi.2.2 a v (by simpa using h) h0 (by simpa using h1)⟩
  | [], _ :: _, h, _, _, _, _, _ => h.elim
  | _ :: _, [], h, _, _, _, _, _ => h.elim
theorem order_l (ds xs : List Int) (hn : ds.length ≤ 6) (hl : xs.length = ds.length) (hr : runOk 1 ds = true) (hi : inD ds xs) : ∀ (d i : Nat) (acc : Int), ds.length - i = d → i ≤ ds.length → 0 ≤ acc → (acc + 1) * prod (ds.drop i) ≤ 4096 →
    Ev (fun k => spec_l3Order.l0 k ds xs acc (i : Int)) (acc * prod (ds.drop i) + ord (ds.drop i) (xs.drop i)) := by
  have hall := run_all hr
  intro d
  induction d with
  | zero =>
    intro i acc hd hi' h0 h1
    refine Ev.succ ?_
    simp only [spec_l3Order.l0]
    refine Ev.neg (by omega) (Ev.some ?_)
    rw [List.drop_eq_nil_of_le (by omega), List.drop_eq_nil_of_le (by omega)]
    simp [prod, ord]
  | succ d ih =>
    intro i acc hd hi' h0 h1
    have hlt : i < ds.length := by omega
    have hlt' : i < xs.length := by omega
    have hx := inD_at hi i hlt hlt'
    have hdi := hall _ (List.getElem_mem hlt)
    have hp := prod_le hr (i + 1)
    rw [drop_at hlt] at h1
    simp only [prod] at h1
    have e1 : (acc + 1) * (ds[i] * prod (ds.drop (i + 1))) = (acc * ds[i] + ds[i]) * prod (ds.drop (i + 1)) := by grind
    have e2 : (acc * ds[i] + xs[i] + 1) * prod (ds.drop (i + 1)) ≤ (acc * ds[i] + ds[i]) * prod (ds.drop (i + 1)) := Int.mul_le_mul_of_nonneg_right (by omega) (by omega)
    have m0 : 0 ≤ acc * ds[i] := Int.mul_nonneg h0 (by omega)
    have m1 : (acc * ds[i] + ds[i]) * 1 ≤ (acc * ds[i] + ds[i]) * prod (ds.drop (i + 1)) := Int.mul_le_mul_of_nonneg_left hp.1 (by omega)
    have ih := ih (i + 1) (acc * ds[i] + xs[i]) (by omega) (by omega) (by omega) (by omega)
    refine Ev.succ ?_
    simp only [spec_l3Order.l0]
    refine Ev.pos (by omega) (Ev.pos (by omega) (Ev.pos (by omega) ?_))
    rw [rd_at hlt, rd_at hlt', up i hlt (by omega), wrap_id (by omega : -9223372036854775808 ≤ acc * ds[i]) (by omega), wrap_id (by omega : -9223372036854775808 ≤ acc * ds[i] + xs[i]) (by omega), drop_at hlt, drop_at hlt']
    simp only [prod, ord]
    rw [show acc * (ds[i] * prod (ds.drop (i + 1))) + (xs[i] * prod (ds.drop (i + 1)) + ord (ds.drop (i + 1)) (xs.drop (i + 1))) = (acc * ds[i] + xs[i]) * prod (ds.drop (i + 1)) + ord (ds.drop (i + 1)) (xs.drop (i + 1)) by grind]
    exact ih
theorem order_ev (ds xs : List Int) (hn : ds.length ≤ 6) (hl : xs.length = ds.length) (hr : runOk 1 ds = true) (hi : inD ds xs) : Ev (fun k => spec_l3Order.f k ds xs) (ord ds xs) := by
  have hp := prod_le hr 0
  have := order_l ds xs hn hl hr hi ds.length 0 0 (by omega) (by omega) (by omega) (by omega)
  unfold spec_l3Order.f
  simpa using this
theorem l3Ints_f (l : List Int) (h : l.length < 17592186044416) : spec_l3Ints.f l = some l := by
  unfold spec_l3Ints.f
  rw [Option.bind_some, if_pos (by simpa using h)]
  rfl
theorem with_f (l : List Int) (a : Nat) (v : Int) (h : a < l.length) (hl : l.length < 17592186044416) : spec_l4With.f l (a : Int) v = some (l.set a v) := by
  unfold spec_l4With.f
  rw [l3Ints_f l hl, Option.bind_some, if_pos (by omega), if_pos (by omega), Int.toNat_natCast]
theorem ord_lt' {ds xs : List Int} (hr : runOk 1 ds = true) (hi : inD ds xs) : 0 ≤ ord ds xs ∧ ord ds xs < prod ds := ord_lt (fun d hd => (run_all hr d hd).1) hi
theorem get_ev (ds data xs : List Int) (hn : ds.length ≤ 6) (hl : xs.length = ds.length) (hr : runOk 1 ds = true) (hi : inD ds xs) (hd : (data.length : Int) = prod ds) : Ev (fun k => spec_l4Get.f k ds data xs) (rd data (ord ds xs)) := by
  have h := ord_lt' hr hi
  unfold spec_l4Get.f
  exact Ev.bind (order_ev ds xs hn hl hr hi) (Ev.pos h.1 (Ev.pos (by omega) (Ev.some rfl)))
/-! ### the program's lines along an axis -/
theorem run_take : ∀ {l : List Int} {n : Int} (i : Nat), runOk n l = true → runOk n (l.take i) = true
  | [], n, i, h => by simpa using h
  | d :: ds, n, 0, h => by simp [runOk]
  | d :: ds, n, i + 1, h => by
    have h2 := runOk_cons h
    have := run_take i h2.2.2.2
    rw [List.take_succ_cons]
    simp only [runOk]
    rw [if_neg (by omega), if_neg (by omega), if_neg (by omega)]
    exact this
theorem lines_ev (ds : List Int) (a : Nat) (hn : ds.length ≤ 6) (hr : runOk 1 ds = true) (ha : a < ds.length) : Ev (fun k => impl_lines.f k ds (a : Int)) (prod (ds.take a), ds.getD a 0, prod (ds.drop (a + 1))) := by
  unfold impl_lines.f
  have w : wrap64 ((a : Int) + 1) = ((a + 1 : Nat) : Int) := by rw [wrap_id] <;> omega
  rw [w, Int.toNat_natCast, Int.toNat_natCast]
  exact Ev.pos (by omega) (Ev.pos (by omega) (Ev.bind (product_ev _ (by rw [List.length_take]; omega) (run_take a hr)) (Ev.pos (by omega) (Ev.pos (by omega) (Ev.pos (by omega) (Ev.bind (product_ev _ (by rw [List.length_drop]; omega) (run_drop (a + 1) hr)) (Ev.some (by rw [rd, Int.toNat_natCast]))))))))
/-! ### a place told by what stands before, along and behind -/
theorem cell_of (n B i k j : Nat) (hk : k < n) (hj : j < B) : ((i * n + k) * B + j) / B / n = i ∧ ((i * n + k) * B + j) / B % n = k ∧ ((i * n + k) * B + j) % B = j := by
  have h1 : ((i * n + k) * B + j) / B = i * n + k := by
    rw [Nat.mul_comm, Nat.mul_add_div (by omega), Nat.div_eq_of_lt hj, Nat.add_zero]
  have h2 : ((i * n + k) * B + j) % B = j := by
    rw [Nat.mul_comm, Nat.mul_add_mod, Nat.mod_eq_of_lt hj]
  have h3 : (i * n + k) / n = i := by
    rw [Nat.mul_comm, Nat.mul_add_div (by omega), Nat.div_eq_of_lt hk, Nat.add_zero]
  have h4 : (i * n + k) % n = k := by
    rw [Nat.mul_comm, Nat.mul_add_mod, Nat.mod_eq_of_lt hk]
  exact ⟨by rw [h1, h3], by rw [h1, h4], h2⟩
theorem cell_eq (n B q : Nat) : q = (q / B / n * n + q / B % n) * B + q % B := by
  have h1 : q / B / n * n + q / B % n = q / B := by
    have := Nat.div_add_mod (q / B) n
    rw [Nat.mul_comm] at this
    exact this
  rw [h1]
  have := Nat.div_add_mod q B
  rw [Nat.mul_comm] at this
  exact this.symm
theorem set_map (N : Nat) (f : Nat → Int) (p : Nat) (v : Int) : ((List.range N).map f).set p v = (List.range N).map (fun q => if q = p then v else f q) := by
  apply List.ext_getElem (by simp)
  intro q h1 h2
  rw [List.getElem_set, List.getElem_map, List.getElem_map, List.getElem_range]
  by_cases e : q = p
  · rw [if_pos e.symm, if_pos e]
  · rw [if_neg (fun h => e h.symm), if_neg e]
/-! ### a place of a shape, taken apart at an axis -/
theorem inD_take : ∀ {ds xs : List Int} (a : Nat), inD ds xs → inD (ds.take a) (xs.take a)
  | [], [], a, _ => by simp [inD]
  | d :: ds, x :: xs, 0, _ => by simp [inD]
  | d :: ds, x :: xs, a + 1, h => ⟨h.1, h.2.1, inD_take a h.2.2⟩
  | [], _ :: _, _, h => h.elim
  | _ :: _, [], _, h => h.elim
theorem inD_drop : ∀ {ds xs : List Int} (a : Nat), inD ds xs → inD (ds.drop a) (xs.drop a)
  | [], [], a, _ => by simp [inD]
  | d :: ds, x :: xs, 0, h => h
  | d :: ds, x :: xs, a + 1, h => inD_drop a h.2.2
  | [], _ :: _, _, h => h.elim
  | _ :: _, [], _, h => h.elim
theorem inD_swap : ∀ {ds xs : List Int}, inD ds xs → ∀ (a : Nat) (m v : Int) (_ : a < ds.length), 0 ≤ v → v < m → inD (ds.set a m) (xs.set a v)
  | [], [], _, a, _, _, h, _, _ => by simp at h
  | d :: ds, x :: xs, hi, a, m, v, h, h0, h1 => by
    cases a with
    | zero => exact ⟨h0, h1, hi.2.2⟩
    | succ a => exact ⟨hi.1, hi.2.1, inD_swap hi.2.2 a m v (by simpa using h) h0 h1⟩
  | [], _ :: _, h, _, _, _, _, _, _ => h.elim
  | _ :: _, [], h, _, _, _, _, _, _ => h.elim
theorem place_split (ds : List Int) (a n B q : Nat) (hr : runOk 1 ds = true) (ha : a < ds.length) (hn : ds.getD a 0 = (n : Int)) (hB : prod (ds.drop (a + 1)) = (B : Int)) (hq : (q : Int) < prod ds) :
    inD ds (idxs ds (q : Int)).1 ∧ (idxs ds (q : Int)).1.length = ds.length ∧ rd (idxs ds (q : Int)).1 (a : Int) = ((q / B % n : Nat) : Int) ∧ q / B % n < n ∧ q % B < B ∧
      ∀ (ds' : List Int) (m v : Nat), ds'.length = ds.length → ds'.take a = ds.take a → ds'.drop (a + 1) = ds.drop (a + 1) → ds'.getD a 0 = (m : Int) → ord ds' ((idxs ds (q : Int)).1.set a (v : Int)) = (((q / B / n * m + v) * B + q % B : Nat) : Int) := by
  have hd : ∀ d ∈ ds, 1 ≤ d := fun d hm => (run_all hr d hm).1
  have ht := (idxs_top hd (by omega : (0 : Int) ≤ (q : Int)) hq).2
  have hi := idxs_in hd (by omega : (0 : Int) ≤ (q : Int))
  have hl := idxs_len ds (q : Int)
  generalize (idxs ds (q : Int)).1 = xs at ht hi hl ⊢
  have h1 := ord_lt (fun d hm => hd d (List.mem_of_mem_take hm)) (inD_take a hi)
  have h2 := ord_lt (fun d hm => hd d (List.mem_of_mem_drop hm)) (inD_drop (a + 1) hi)
  have hxl : a < xs.length := by omega
  have h3 := inD_at hi a ha hxl
  have hx : xs.getD a 0 = xs[a] := by rw [List.getD_eq_getElem?_getD, List.getElem?_eq_getElem hxl, Option.getD_some]
  have hdd : ds.getD a 0 = ds[a] := by rw [List.getD_eq_getElem?_getD, List.getElem?_eq_getElem ha, Option.getD_some]
  have hs := ord_split a ds xs ha hl
  obtain ⟨o1, e1⟩ := Int.eq_ofNat_of_zero_le h1.1
  obtain ⟨o2, e2⟩ := Int.eq_ofNat_of_zero_le h2.1
  obtain ⟨x, e3⟩ := Int.eq_ofNat_of_zero_le h3.1
  have hq' : q = (o1 * n + x) * B + o2 := by
    rw [ht, e1, e2, hn, hB, hx, e3] at hs
    exact_mod_cast hs
  obtain ⟨c1, c2, c3⟩ := cell_of n B o1 x o2 (by omega) (by omega)
  rw [← hq'] at c1 c2 c3
  refine ⟨hi, hl, ?_, by omega, by omega, ?_⟩
  · rw [c2, rd, Int.toNat_natCast, hx, e3]
  · intro ds' m v hl' ht' hd' hm
    rw [ord_set a ds' xs (by omega) (by omega), ht', hd', hm, e1, e2, hB, c1, c3]
    push_cast
    rfl
theorem cell_lt {A n B i k j : Nat} (hi : i < A) (hk : k < n) (hj : j < B) : (i * n + k) * B + j < A * n * B ∧ i * n + k < A * n := by
  have h1 : (i + 1) * n ≤ A * n := Nat.mul_le_mul_right n hi
  rw [Nat.add_mul, Nat.one_mul] at h1
  have h2 : (i * n + k + 1) * B ≤ A * n * B := Nat.mul_le_mul_right B (by omega)
  rw [Nat.add_mul, Nat.one_mul] at h2
  omega
theorem at_cell {A n B i k j : Nat} (hi : i < A) (hk : k < n) (hj : j < B) (hN : A * n * B ≤ 4096) : wrap64 (wrap64 (wrap64 (wrap64 ((i : Int) * (n : Int)) + (k : Int)) * (B : Int)) + (j : Int)) = (((i * n + k) * B + j : Nat) : Int) := by
  obtain ⟨h, h'⟩ := cell_lt hi hk hj
  have w : ∀ z : Nat, z ≤ 4096 → wrap64 (z : Int) = z := fun z hz => wrap_id (by omega) (by omega)
  have m : (i * n + k) * 1 ≤ (i * n + k) * B := Nat.mul_le_mul_left _ (by omega)
  have h4 : (i * n + k) * B + j ≤ 4096 := by omega
  have h3 : (i * n + k) * B ≤ 4096 := by omega
  have h2 : i * n + k ≤ 4096 := by omega
  have h1 : i * n ≤ 4096 := by omega
  have e1 : (i : Int) * (n : Int) = ((i * n : Nat) : Int) := by push_cast; rfl
  have e2 : ((i * n : Nat) : Int) + (k : Int) = ((i * n + k : Nat) : Int) := by push_cast; rfl
  have e3 : ((i * n + k : Nat) : Int) * (B : Int) = (((i * n + k) * B : Nat) : Int) := by push_cast; rfl
  have e4 : (((i * n + k) * B : Nat) : Int) + (j : Int) = (((i * n + k) * B + j : Nat) : Int) := by push_cast; rfl
  rw [e1, w _ h1, e2, w _ h2, e3, w _ h3, e4, w _ h4]
theorem take_next {β : Type} {l : List β} {i : Nat} (h : i < l.length) : l.take i ++ [l[i]] = l.take (i + 1) := (List.take_succ_eq_append_getElem h).symm
theorem isAxis_f (ds : List Int) (a : Int) : impl_isAxis.f ds a = some (decide (0 ≤ a) && decide (a < (ds.length : Int))) := by
  unfold impl_isAxis.f
  split
  · next h => rw [decide_eq_true (show 0 ≤ a by omega), Bool.true_and]
  · next h => rw [decide_eq_false (show ¬ 0 ≤ a by omega), Bool.false_and]
theorem axis_ev (ds data : List Int) (a : Int) (h1 : ds.length ≤ 1048576) (h2 : data.length ≤ 1048576) : Ev (fun k => spec_l4Axis.f k ds data a) (tensB ds data && (decide (0 ≤ a) && decide (a < (ds.length : Int)))) := by
  unfold spec_l4Axis.f
  refine Ev.bind (stens_ev ds data (by omega) (by omega)) ?_
  cases tensB ds data with
  | false => exact Ev.neg (by simp) (Ev.some rfl)
  | true =>
    refine Ev.pos rfl (Ev.ite (fun h => Ev.some ?_) (fun h => Ev.some ?_))
    · rw [decide_eq_true (show 0 ≤ a by omega)]
      rfl
    · rw [decide_eq_false (show ¬ 0 ≤ a by omega)]
      rfl
/-! ### numbers put together -/
def pl (x y : Int) : Int := if x + y ≥ 2147483647 then x + y - 2147483647 else x + y
theorem numB_iff {x : Int} : numB x = true ↔ 0 ≤ x ∧ x < 2147483647 := by
  unfold numB
  rw [Bool.and_eq_true, decide_eq_true_eq, decide_eq_true_eq]
theorem pl_num {x y : Int} (hx : numB x = true) (hy : numB y = true) : numB (pl x y) = true := by
  rw [numB_iff] at *
  unfold pl
  split <;> omega
theorem pl_f {x y : Int} (hx : numB x = true) (hy : numB y = true) : impl_residue_plus.f x y = some (pl x y) := by
  rw [numB_iff] at hx hy
  unfold impl_residue_plus.f pl
  rw [wrap_id (by omega) (by omega)]
  split
  · rw [wrap_id (by omega) (by omega)]
  · rfl
theorem pl_zero {x : Int} (hx : numB x = true) : pl 0 x = x := by
  rw [numB_iff] at hx
  unfold pl
  rw [if_neg (by omega), Int.zero_add]
theorem all_at {l : List Int} (h : l.all numB = true) (i : Nat) : numB (rd l (i : Int)) = true := by
  by_cases hi : i < l.length
  · rw [rd_at hi]
    exact List.all_eq_true.1 h _ (List.getElem_mem hi)
  · unfold rd
    rw [List.getD_eq_getElem?_getD, Int.toNat_natCast, List.getElem?_eq_none (by omega)]
    rfl
theorem all_set {l : List Int} (h : l.all numB = true) (i : Nat) {x : Int} (hx : numB x = true) : (l.set i x).all numB = true := by
  rw [List.all_eq_true] at *
  intro y hy
  rcases List.mem_or_eq_of_mem_set hy with g | g
  · exact h y g
  · rw [g]; exact hx
/-! ### pairs along an axis, and what they move -/
theorem rdS_at {l : List S113} {i : Nat} (h : i < l.length) : rd_T113 l (i : Int) = l[i] := by
  unfold rd_T113
  rw [List.getD_eq_getElem?_getD, Int.toNat_natCast, List.getElem?_eq_getElem h, Option.getD_some]
theorem range_at {β : Type} (F : Nat → β) (n i : Nat) (h : i < ((List.range n).map F).length) : ((List.range n).map F)[i] = F i := by simp
/-- d steps from q on: what stands at f is put to what stands at g. -/
def runM (f g : Nat → Nat) (data : List Int) : Nat → Nat → List Int → List Int
  | 0, _, out => out
  | d + 1, q, out => runM f g data d (q + 1) (out.set (g q) (pl (rd out (g q : Int)) (rd data (f q : Int))))
theorem runM_len (f g : Nat → Nat) (data : List Int) : ∀ (d q : Nat) (out : List Int), (runM f g data d q out).length = out.length
  | 0, _, _ => rfl
  | d + 1, q, out => by simp only [runM]; rw [runM_len f g data d]; simp
theorem moved_l (ds data : List Int) (hnum : data.all numB = true) (f g : Nat → Nat) (M : Nat) (hM : M ≤ 16777216) (N : Nat) (hf : ∀ q < M, f q < data.length) (hg : ∀ q < M, g q < N) :
    ∀ (d q : Nat) (out : List Int), M - q = d → q ≤ M → out.length = N → out.all numB = true →
      Ev (fun K => impl_moved.l0 K data ((List.range M).map fun q => (⟨(f q : Int), (g q : Int)⟩ : S113)) (M : Int) (q : Int) ds out) (ds, runM f g data d q out) := by
  intro d
  induction d with
  | zero =>
    intro q out hd hq hl ho
    refine Ev.succ ?_
    simp only [impl_moved.l0, runM]
    exact Ev.neg (by omega) (Ev.some rfl)
  | succ d ih =>
    intro q out hd hq hl ho
    have hq' : q < M := by omega
    have hlt : q < ((List.range M).map fun q => (⟨(f q : Int), (g q : Int)⟩ : S113)).length := by simp; exact hq'
    have h1 := hf q hq'
    have h2 := hg q hq'
    refine Ev.succ ?_
    simp only [impl_moved.l0, runM]
    rw [rdS_at hlt, range_at, up q hq' (by omega)]
    refine Ev.pos (by omega) (Ev.pos (by omega) (Ev.pos (by omega) (Ev.pos (by dsimp only; omega) (Ev.pos (by dsimp only; omega) (Ev.pos (by dsimp only; omega) (Ev.pos (by dsimp only; omega) (Ev.b (pl_f (all_at ho _) (all_at hnum _)) ?_)))))))
    dsimp only
    rw [Int.toNat_natCast]
    exact ih (q + 1) _ (by omega) (by omega) (by simpa using hl) (all_set ho _ (pl_num (all_at ho _) (all_at hnum _)))
theorem moved_ev (ds data : List Int) (hd : dimsB ds = true) (hdl : ds.length ≤ 1048576) (hnum : data.all numB = true) (f g : Nat → Nat) (M : Nat) (hM : M ≤ 16777216) (hf : ∀ q < M, f q < data.length) (hg : ∀ q < M, g q < (prod ds).toNat) :
    Ev (fun k => impl_moved.f k data ds ((List.range M).map fun q => (⟨(f q : Int), (g q : Int)⟩ : S113))) (ds, runM f g data M 0 (List.replicate (prod ds).toNat 0)) := by
  have d2 := idims_ev ds (by omega)
  rw [hd] at d2
  unfold dimsB at hd
  simp only [Bool.and_eq_true, decide_eq_true_eq] at hd
  have p := prod_le hd.2 0
  rw [List.drop_zero] at p
  unfold impl_moved.f impl_blank.f
  refine Ev.bind (a := (ds, List.replicate (prod ds).toNat 0)) (Ev.bind d2 (Ev.pos rfl (Ev.b (clone_f ds (by omega)) (Ev.bind (product_ev ds (by omega) hd.2) (Ev.pos (by omega) (Ev.pos (by omega) (Ev.some rfl))))))) ?_
  have := moved_l ds data hnum f g M hM (prod ds).toNat hf hg M 0 (List.replicate (prod ds).toNat 0) (by omega) (by omega) (by simp) (by
    rw [List.all_eq_true]
    intro y hy
    rw [(List.mem_replicate.1 hy).2]
    rfl)
  simpa using this
theorem iwith_f (l : List Int) (a : Nat) (v : Int) (h : a < l.length) (hl : l.length < 17592186044416) : impl_with.f l (a : Int) v = some (l.set a v) := by
  unfold impl_with.f
  rw [clone_f l hl, Option.bind_some, if_pos (by omega), if_pos (by omega), Int.toNat_natCast]
/-! ### windows folded back -/
theorem mod_num {x : Int} (h : numB x = true) : spec_Mod.f x = some x := by
  rw [numB_iff] at h
  unfold spec_Mod.f
  rw [Int.tmod_eq_emod_of_nonneg h.1, Int.emod_eq_of_lt h.1 h.2, if_neg (by omega)]
theorem plus_f {x y : Int} (hx : numB x = true) (hy : numB y = true) : spec_Plus.f x y = some (pl x y) := by
  unfold spec_Plus.f
  rw [mod_num hx, Option.bind_some, mod_num hy, Option.bind_some]
  rw [numB_iff] at hx hy
  rw [wrap_id (by omega) (by omega)]
  unfold spec_Mod.f pl
  rw [Int.tmod_eq_emod_of_nonneg (by omega)]
  have := Int.emod_nonneg (x + y) (show (2147483647 : Int) ≠ 0 by decide)
  rw [if_neg (by omega), Option.bind_some]
  split
  · rw [show (x + y) % 2147483647 = x + y - 2147483647 by omega]
  · rw [Int.emod_eq_of_lt (by omega) (by omega)]
theorem set_ev (ds data xs : List Int) (v : Int) (hn : ds.length ≤ 6) (hl : xs.length = ds.length) (hr : runOk 1 ds = true) (hi : inD ds xs) (hd : (data.length : Int) = prod ds) : Ev (fun k => spec_l4Set.f k ds data xs v) (data.set (ord ds xs).toNat v) := by
  have h := ord_lt' hr hi
  unfold spec_l4Set.f
  exact Ev.bind (order_ev ds xs hn hl hr hi) (Ev.pos h.1 (Ev.pos (by omega) (Ev.some rfl)))
theorem zeros_num (N : Nat) : (List.replicate N (0 : Int)).all numB = true := by
  rw [List.all_eq_true]
  intro y hy
  rw [(List.mem_replicate.1 hy).2]
  rfl
theorem idxs_snoc : ∀ (es : List Int) (W q : Int), idxs (es ++ [W]) q = ((idxs es (q / W)).1 ++ [q % W], (idxs es (q / W)).2)
  | [], W, q => by simp [idxs]
  | e :: es, W, q => by
    simp only [List.cons_append, idxs]
    rw [idxs_snoc es W q]
theorem prod_snoc : ∀ (es : List Int) (W : Int), prod (es ++ [W]) = prod es * W
  | [], W => by simp [prod]
  | e :: es, W => by
    simp only [List.cons_append, prod]
    rw [prod_snoc es W, Int.mul_assoc]
theorem swap_at (ds : List Int) (b : Nat) (n : Nat) (hb : b < ds.length) : (ds.set b (n : Int)).getD b 0 = (n : Int) := by rw [List.getD_eq_getElem?_getD, List.getElem?_set_self hb, Option.getD_some]
theorem prod_set (ds : List Int) (b : Nat) (n : Int) (hb : b < ds.length) : prod (ds.set b n) = prod (ds.take b) * n * prod (ds.drop (b + 1)) := by
  rw [prod_split b (ds.set b n) (by simpa using hb), List.take_set_of_le (Nat.le_refl b), List.drop_set_of_lt (by omega), List.getD_eq_getElem?_getD, List.getElem?_set_self hb, Option.getD_some]
/-- Where the number at q goes. -/
def toQ (n s l B W q : Nat) : Nat := (q / W / B / l * n + (q / W / B % l * s + q % W)) * B + q / W % B
theorem snoc_read {xs : List Int} {L : Nat} {w : Int} (hx : xs.length = L) : rd (xs ++ [w]) (L : Int) = w := by
  rw [rd_at (by simp; omega), List.getElem_append_right (by omega)]
  simp [hx]
theorem snoc_rd {xs : List Int} {b : Nat} {w : Int} (hb : b < xs.length) : rd (xs ++ [w]) (b : Int) = rd xs (b : Int) := by
  rw [rd_at (by simp; omega), rd_at hb, List.getElem_append_left hb]
theorem v_lt {k l s W n : Nat} {w : Nat} (hk : k < l) (hw : w < W) (hn : (l - 1) * s + W ≤ n) : k * s + w < n := by
  have : k * s ≤ (l - 1) * s := Nat.mul_le_mul_right s (by omega)
  omega
theorem wm {a b : Nat} (h : a * b ≤ 4611686018427387904) : wrap64 ((a : Int) * (b : Int)) = ((a * b : Nat) : Int) := by
  rw [← Int.natCast_mul]
  exact wrap_id (by omega) (by omega)
theorem wa {a b : Nat} (h : a + b ≤ 4611686018427387904) : wrap64 ((a : Int) + (b : Int)) = ((a + b : Nat) : Int) := by
  rw [← Int.natCast_add]
  exact wrap_id (by omega) (by omega)
theorem w12 {kk s ww v : Nat} (hv : v = kk * s + ww) (h : v ≤ 4096) : wrap64 ((kk : Int) * (s : Int)) = ((kk * s : Nat) : Int) ∧ wrap64 (((kk * s : Nat) : Int) + (ww : Int)) = (v : Int) := by
  subst hv
  exact ⟨wm (by omega), wa (by omega)⟩
theorem fold_step (es data out xs : List Int) (b n W s q tq v kk ww : Nat) (R : List Int × List Int) (hl6 : es.length + 1 ≤ 6) (hr' : runOk 1 (es.set b (n : Int)) = true) (hb : b < es.length) (hxl : xs.length = es.length) (hx : rd xs (b : Int) = (kk : Int)) (hv : v = kk * s + ww) (hvn : v < n) (hn4 : n ≤ 4096) (hi1 : inD es xs)
    (hq : q < data.length) (hdl : data.length ≤ 4096) (hol : (out.length : Int) = prod (es.set b (n : Int))) (hon : out.all numB = true) (hnum : data.all numB = true) (hord : ord (es.set b (n : Int)) (xs.set b (v : Int)) = (tq : Int)) (hidx : Ev (fun k => spec_l3Index.f k (es ++ [(W : Int)]) (q : Int)) (xs ++ [(ww : Int)]))
    (h : Ev (fun K => spec_Fold.l0 K (b : Int) (s : Int) (es.length : Int) ((q + 1 : Nat) : Int) (es ++ [(W : Int)]) data (es.set b (n : Int)) (out.set tq (pl (rd out (tq : Int)) (rd data (q : Int))))) R) :
    Ev (fun K => spec_Fold.l0 K (b : Int) (s : Int) (es.length : Int) (q : Int) (es ++ [(W : Int)]) data (es.set b (n : Int)) out) R := by
  have r2 := snoc_read (w := (ww : Int)) hxl
  have r1 := snoc_rd (w := (ww : Int)) (show b < xs.length by omega)
  have WW := Aside0.mk (w12 hv (Nat.le_trans (Nat.le_of_lt hvn) hn4))
  have HH := Aside0.mk (And.intro hol (And.intro hord (And.intro hx (And.intro r1 r2))))
  clear hv hol hord hx r1 r2
  have et : ((xs ++ [(ww : Int)]).set b (v : Int)).take ((es.length : Nat) : Int).toNat = xs.set b (v : Int) := by
    rw [Int.toNat_natCast, List.set_append_left _ _ (by omega), List.take_left' (by simpa using hxl)]
  have hsw := inD_swap hi1 b (n : Int) (v : Int) hb (by omega) (by omega)
  have ge := get_ev (es.set b (n : Int)) out _ (by simp; omega) (by simp [hxl]) hr' hsw HH.out.1
  have se := fun v => set_ev (es.set b (n : Int)) out _ v (by simp; omega) (by simp [hxl]) hr' hsw HH.out.1
  rw [HH.out.2.1] at ge
  refine Ev.succ ?_
  simp only [spec_Fold.l0]
  refine Ev.pos (by omega) (Ev.bind hidx ?_)
  rw [HH.out.2.2.2.1, HH.out.2.2.2.2, HH.out.2.2.1, WW.out.1, WW.out.2]
  refine Ev.pos (by omega) (Ev.pos (by simp; omega) (Ev.pos (by omega) (Ev.pos (by simp; omega) (Ev.b (with_f _ b _ (by simp; omega) (by simp; omega)) (Ev.pos (by simp; omega) (Ev.b (congrArg some et) (Ev.bind ge (Ev.pos (by omega) (Ev.b (plus_f (all_at hon _) (all_at hnum _)) (Ev.bind (se _) ?_))))))))))
  rw [HH.out.2.1, Int.toNat_natCast, up q hq (by omega)]
  exact h
theorem fold_l0 (es data : List Int) (b l n B W s : Nat) (hl6 : es.length + 1 ≤ 6) (hr : runOk 1 (es ++ [(W : Int)]) = true) (hre : runOk 1 es = true) (hr' : runOk 1 (es.set b (n : Int)) = true) (hb : b < es.length) (hl : es.getD b 0 = (l : Int)) (hB : prod (es.drop (b + 1)) = (B : Int)) (hd : (data.length : Int) = prod (es ++ [(W : Int)])) (hW : 0 < W) (hn : ∀ k < l, ∀ w < W, k * s + w < n) (hn4 : n ≤ 4096) (hnum : data.all numB = true) :
    ∀ (d q : Nat) (out : List Int), data.length - q = d → q ≤ data.length → (out.length : Int) = prod (es.set b (n : Int)) → out.all numB = true → Ev (fun K => spec_Fold.l0 K (b : Int) (s : Int) (es.length : Int) (q : Int) (es ++ [(W : Int)]) data (es.set b (n : Int)) out) (es.set b (n : Int), runM id (toQ n s l B W) data d q out) := by
  have hds : ∀ d ∈ es ++ [(W : Int)], 1 ≤ d := fun d hm => (run_all hr d hm).1
  have hN := prod_le hr 0
  rw [List.drop_zero] at hN
  intro d
  induction d with
  | zero =>
    intro q out hd' hq hol hon
    refine Ev.succ ?_
    simp only [spec_Fold.l0, runM]
    exact Ev.neg (by omega) (Ev.some rfl)
  | succ d ih =>
    intro q out hd' hq hol hon
    have hlt : q < data.length := by omega
    have hdl : data.length ≤ 4096 := by omega
    have ih' := ih (q + 1) (out.set (toQ n s l B W q) (pl (rd out (toQ n s l B W q : Int)) (rd data (q : Int)))) (by omega) (by omega) (by simpa using hol) (all_set hon _ (pl_num (all_at hon _) (all_at hnum _)))
    have hqW : ((q / W : Nat) : Int) < prod es := by
      have h1 : (q : Int) < prod es * W := by rw [← prod_snoc]; omega
      rw [Int.natCast_ediv]
      exact Int.ediv_lt_of_lt_mul (by omega) h1
    have hidx := index_ev (es ++ [(W : Int)]) (by simp; omega) hds (q : Int) (by omega) (by omega)
    rw [idxs_snoc, ← Int.natCast_ediv, ← Int.natCast_emod] at hidx
    clear ih hd' hd hN hds hr hq
    obtain ⟨hi1, hxl, hx, hk, hj, hord⟩ := place_split es b l B (q / W) hre hb hl hB hqW
    have hv := hn _ hk _ (Nat.mod_lt q hW)
    have hvv := hord (es.set b (n : Int)) n (q / W / B % l * s + q % W) (by simp) (by rw [List.take_set_of_le (Nat.le_refl b)]) (by rw [List.drop_set_of_lt (by omega)]) (swap_at es b n hb)
    simp only [runM]
    exact fold_step es data out _ b n W s q (toQ n s l B W q) _ _ _ _ hl6 hr' hb hxl hx rfl hv hn4 hi1 hlt hdl hol hon hnum hvv hidx ih'
/-- The pairs, in order. -/
def pairsM (n s l B W N : Nat) : List S113 := (List.range N).map fun q : Nat => (⟨(q : Int), (toQ n s l B W q : Int)⟩ : S113)
theorem pairsM_len (n s l B W N : Nat) : (pairsM n s l B W N).length = N := by simp [pairsM]
section
set_option linter.unusedSectionVars false
variable (ds out : List Int) (A l B W n s L : Nat) (hWd : rd ds (L : Int) = (W : Int)) (hL : L < ds.length) (hN : A * l * B * W ≤ 4096) (hn : A * n * B ≤ 4096) (hA4 : A ≤ 4096) (hB4 : B ≤ 4096) (hl4 : l ≤ 4096) (hW4 : W ≤ 4096) (hv : ∀ k < l, ∀ w < W, k * s + w < n) (hW0 : 0 < W)
include hWd hL hN hn hA4 hB4 hl4 hW4 hv hW0
theorem fp_l3 (i k j : Nat) (hi : i < A) (hk : k < l) (hj : j < B) (R : List Int × List S113 × Bool)
    (h : Ev (fun K => impl_foldPairs.l2 K ds (s : Int) (n : Int) (L : Int) out (A : Int) (l : Int) (B : Int) ((pairsM n s l B W (A * l * B * W)).take (((i * l + k) * B + (j + 1)) * W)) (i : Int) (k : Int) ((j + 1 : Nat) : Int)) R) :
    ∀ (d w : Nat), W - w = d → w ≤ W → Ev (fun K => impl_foldPairs.l3 K ds (s : Int) (n : Int) (L : Int) out (A : Int) (l : Int) (B : Int) ((pairsM n s l B W (A * l * B * W)).take (((i * l + k) * B + j) * W + w)) (i : Int) (k : Int) (j : Int) (w : Int)) R := by
  intro d
  induction d with
  | zero =>
    intro w hd hw
    refine Ev.succ ?_
    simp only [impl_foldPairs.l3]
    rw [hWd, up j hj (by omega)]
    refine Ev.pos (by omega) (Ev.pos (by omega) (Ev.neg (by omega) ?_))
    rw [show ((i * l + k) * B + j) * W + w = ((i * l + k) * B + (j + 1)) * W by rw [show w = W by omega, ← Nat.add_assoc ((i * l + k) * B), Nat.add_mul ((i * l + k) * B + j) 1 W, Nat.one_mul]]
    exact h
  | succ d ih =>
    intro w hd hw
    have hw' : w < W := by omega
    have ih' := ih (w + 1) (by omega) (by omega)
    have hWi : W ≤ 9223372036854775807 := by omega
    have c1 := cell_lt hi hk hj
    have c2 : ((i * l + k) * B + j) * W + w < A * l * B * W := by
      have h3 : ((i * l + k) * B + j + 1) * W ≤ A * l * B * W := Nat.mul_le_mul_right W c1.1
      rw [Nat.add_mul, Nat.one_mul] at h3
      exact Nat.lt_of_lt_of_le (Nat.add_lt_add_left hw' _) h3
    have hvn := hv k hk w hw'
    have c3 := cell_lt hi hvn hj
    have hal : A * l ≤ 4096 * 4096 := Nat.mul_le_mul hA4 hl4
    have halB : A * l * B ≤ 4096 * 4096 * 4096 := Nat.mul_le_mul hal hB4
    have hlt : ((i * l + k) * B + j) * W + w < (pairsM n s l B W (A * l * B * W)).length := by rw [pairsM_len]; exact c2
    have d1 : (((i * l + k) * B + j) * W + w) / W = (i * l + k) * B + j := by rw [Nat.mul_comm, Nat.mul_add_div hW0, Nat.div_eq_of_lt hw', Nat.add_zero]
    have d2 : (((i * l + k) * B + j) * W + w) % W = w := by rw [Nat.mul_comm, Nat.mul_add_mod, Nat.mod_eq_of_lt hw']
    obtain ⟨e1, e2, e3⟩ := cell_of l B i k j hk hj
    have et : toQ n s l B W (((i * l + k) * B + j) * W + w) = (i * n + (k * s + w)) * B + j := by
      unfold toQ
      rw [d1, d2, e1, e2, e3]
    have b2 : i * l + k ≤ 4611686018427387904 := Nat.le_trans (Nat.le_of_lt c1.2) (Nat.le_trans hal (by decide))
    have b1 : i * l ≤ 4611686018427387904 := Nat.le_trans (Nat.le_add_right _ _) b2
    have b4 : (i * l + k) * B + j ≤ 4611686018427387904 := Nat.le_trans (Nat.le_of_lt c1.1) (Nat.le_trans halB (by decide))
    have b3 : (i * l + k) * B ≤ 4611686018427387904 := Nat.le_trans (Nat.le_add_right _ _) b4
    have b6 : ((i * l + k) * B + j) * W + w ≤ 4611686018427387904 := Nat.le_trans (Nat.le_of_lt c2) (Nat.le_trans hN (by decide))
    have b5 : ((i * l + k) * B + j) * W ≤ 4611686018427387904 := Nat.le_trans (Nat.le_add_right _ _) b6
    have hAn : A * n ≤ A * n * B := Nat.le_mul_of_pos_right _ (Nat.lt_of_le_of_lt (Nat.zero_le _) hj)
    have g6 : (i * n + (k * s + w)) * B + j ≤ 4611686018427387904 := Nat.le_trans (Nat.le_of_lt c3.1) (Nat.le_trans hn (by decide))
    have g5 : (i * n + (k * s + w)) * B ≤ 4611686018427387904 := Nat.le_trans (Nat.le_add_right _ _) g6
    have g4 : i * n + (k * s + w) ≤ 4611686018427387904 := Nat.le_trans (Nat.le_of_lt c3.2) (Nat.le_trans hAn (Nat.le_trans hn (by decide)))
    have g3 : i * n + k * s ≤ 4611686018427387904 := Nat.le_trans (Nat.add_le_add_left (Nat.le_add_right _ _) _) g4
    have g2 : k * s ≤ 4611686018427387904 := Nat.le_trans (Nat.le_add_left _ _) g3
    have g1 : i * n ≤ 4611686018427387904 := Nat.le_trans (Nat.le_add_right _ _) g4
    have q1 := wm b1
    have q2 := wa b2
    have q3 := wm b3
    have q4 := wa b4
    have q5 := wm b5
    have q6 := wa b6
    have p1 := wm g1
    have p2 := wm g2
    have p3 := wa g3
    have p4 := wa (a := i * n + k * s) (b := w) (by rw [Nat.add_assoc]; exact g4)
    rw [Nat.add_assoc] at p4
    have p5 := wm g5
    have p6 := wa g6
    refine Ev.succ ?_
    simp only [impl_foldPairs.l3]
    rw [hWd, q1, q2, q3, q4, q5, q6, p1, p2, p3, p4, p5, p6, up w hw' hWi]
    refine Ev.pos (Int.natCast_nonneg _) (Ev.pos (Int.ofNat_lt.2 hL) (Ev.pos (Int.ofNat_lt.2 hw') (Ev.pos (by rw [List.length_take, pairsM_len]; exact Nat.lt_of_le_of_lt (Nat.min_le_right _ _) (Nat.lt_of_le_of_lt hN (by decide))) ?_)))
    have e := take_next hlt
    have e4 : (pairsM n s l B W (A * l * B * W))[((i * l + k) * B + j) * W + w] = (⟨((((i * l + k) * B + j) * W + w : Nat) : Int), (((i * n + (k * s + w)) * B + j : Nat) : Int)⟩ : S113) := by
      simp only [pairsM, range_at]
      rw [et]
    rw [e4] at e
    rw [e]
    exact ih'
theorem fp_l2 (i k : Nat) (hi : i < A) (hk : k < l) (R : List Int × List S113 × Bool)
    (h : Ev (fun K => impl_foldPairs.l1 K ds (s : Int) (n : Int) (L : Int) out (A : Int) (l : Int) (B : Int) ((pairsM n s l B W (A * l * B * W)).take (((i * l + (k + 1)) * B) * W)) (i : Int) ((k + 1 : Nat) : Int)) R) :
    ∀ (d j : Nat), B - j = d → j ≤ B → Ev (fun K => impl_foldPairs.l2 K ds (s : Int) (n : Int) (L : Int) out (A : Int) (l : Int) (B : Int) ((pairsM n s l B W (A * l * B * W)).take (((i * l + k) * B + j) * W)) (i : Int) (k : Int) (j : Int)) R := by
  intro d
  induction d with
  | zero =>
    intro j hd hj
    refine Ev.succ ?_
    simp only [impl_foldPairs.l2]
    rw [up k hk (by omega)]
    refine Ev.neg (by omega) ?_
    rw [show ((i * l + k) * B + j) = (i * l + (k + 1)) * B by rw [show j = B by omega, ← Nat.add_assoc, Nat.add_mul (i * l + k) 1 B, Nat.one_mul]]
    exact h
  | succ d ih =>
    intro j hd hj
    refine Ev.succ ?_
    simp only [impl_foldPairs.l2]
    refine Ev.pos (by omega) ?_
    exact fp_l3 ds out A l B W n s L hWd hL hN hn hA4 hB4 hl4 hW4 hv hW0 i k j hi hk (by omega) R (ih (j + 1) (by omega) (by omega)) W 0 (by omega) (by omega)
theorem fp_l1 (i : Nat) (hi : i < A) (R : List Int × List S113 × Bool)
    (h : Ev (fun K => impl_foldPairs.l0 K ds (s : Int) (n : Int) (L : Int) out (A : Int) (l : Int) (B : Int) ((pairsM n s l B W (A * l * B * W)).take (((i + 1) * l * B) * W)) ((i + 1 : Nat) : Int)) R) :
    ∀ (d k : Nat), l - k = d → k ≤ l → Ev (fun K => impl_foldPairs.l1 K ds (s : Int) (n : Int) (L : Int) out (A : Int) (l : Int) (B : Int) ((pairsM n s l B W (A * l * B * W)).take (((i * l + k) * B) * W)) (i : Int) (k : Int)) R := by
  intro d
  induction d with
  | zero =>
    intro k hd hk
    refine Ev.succ ?_
    simp only [impl_foldPairs.l1]
    rw [up i hi (by omega)]
    refine Ev.neg (by omega) ?_
    rw [show i * l + k = (i + 1) * l by rw [show k = l by omega, Nat.add_mul, Nat.one_mul]]
    exact h
  | succ d ih =>
    intro k hd hk
    refine Ev.succ ?_
    simp only [impl_foldPairs.l1]
    refine Ev.pos (by omega) ?_
    have := fp_l2 ds out A l B W n s L hWd hL hN hn hA4 hB4 hl4 hW4 hv hW0 i k hi (by omega) R (ih (k + 1) (by omega) (by omega)) B 0 (by omega) (by omega)
    rw [Nat.add_zero] at this
    exact this
theorem fp_l0 : ∀ (d i : Nat), A - i = d → i ≤ A → Ev (fun K => impl_foldPairs.l0 K ds (s : Int) (n : Int) (L : Int) out (A : Int) (l : Int) (B : Int) ((pairsM n s l B W (A * l * B * W)).take ((i * l * B) * W)) (i : Int)) (out, pairsM n s l B W (A * l * B * W), true) := by
  intro d
  induction d with
  | zero =>
    intro i hd hi
    refine Ev.succ ?_
    simp only [impl_foldPairs.l0]
    refine Ev.neg (by omega) (Ev.some ?_)
    rw [List.take_of_length_le (by rw [pairsM_len, show i = A by omega]; exact Nat.le_refl _)]
  | succ d ih =>
    intro i hd hi
    refine Ev.succ ?_
    simp only [impl_foldPairs.l0]
    refine Ev.pos (by omega) ?_
    have := fp_l1 ds out A l B W n s L hWd hL hN hn hA4 hB4 hl4 hW4 hv hW0 i (by omega) _ (ih (i + 1) (by omega) (by omega)) l 0 (by omega) (by omega)
    rw [Nat.add_zero] at this
    exact this
end
theorem snoc_of : ∀ l : List Int, l ≠ [] → ∃ es w, l = es ++ [w]
  | [], h => absurd rfl h
  | [x], _ => ⟨[], x, rfl⟩
  | x :: y :: l, _ => by
    obtain ⟨es, w, e⟩ := snoc_of (y :: l) (by simp)
    exact ⟨x :: es, w, by rw [e]; rfl⟩
theorem toQ_lt (es : List Int) (b l n B W s q : Nat) (hre : runOk 1 es = true) (hr' : runOk 1 (es.set b (n : Int)) = true) (hb : b < es.length) (hl : es.getD b 0 = (l : Int)) (hB : prod (es.drop (b + 1)) = (B : Int)) (hW : 0 < W) (hn : ∀ k < l, ∀ w < W, k * s + w < n) (hqW : ((q / W : Nat) : Int) < prod es) : (toQ n s l B W q : Int) < prod (es.set b (n : Int)) := by
  obtain ⟨hi1, hxl, hx, hk, hj, hord⟩ := place_split es b l B (q / W) hre hb hl hB hqW
  have hv := hn _ hk _ (Nat.mod_lt q hW)
  have hvv := hord (es.set b (n : Int)) n (q / W / B % l * s + q % W) (by simp) (by rw [List.take_set_of_le (Nat.le_refl b)]) (by rw [List.drop_set_of_lt (by omega)]) (swap_at es b n hb)
  have hsw := inD_swap hi1 b (n : Int) ((q / W / B % l * s + q % W : Nat) : Int) hb (Int.natCast_nonneg _) (Int.ofNat_lt.2 hv)
  have o := (ord_lt' hr' hsw).2
  rw [hvv] at o
  exact o
theorem toQ_one (n s s' B W : Nat) : toQ n s 1 B W = toQ n s' 1 B W := by
  funext q
  unfold toQ
  rw [Nat.mod_one, Nat.zero_mul, Nat.zero_mul]
theorem steps_lt {l m W S : Nat} (hWm : W ≤ m) (hl : l = (m - W) / S + 1) : ∀ k < l, ∀ w < W, k * S + w < m := by
  intro k hk w hw
  have h1 : k * S ≤ (m - W) / S * S := Nat.mul_le_mul_right S (by omega)
  have h2 := Nat.div_mul_le_self (m - W) S
  have h3 := Nat.le_trans h1 h2
  omega
theorem flag_val {m W S : Nat} (hWm : W ≤ m) (hm : m ≤ 4096) (hS : 0 < S) : wrap64 (wrap64 (Int.tdiv (wrap64 ((m : Int) - (W : Int))) (S : Int)) + 1) = (((m - W) / S + 1 : Nat) : Int) := by
  have e : (m : Int) - (W : Int) = ((m - W : Nat) : Int) := by omega
  have h : (m - W) / S ≤ m - W := Nat.div_le_self _ _
  rw [e, wrap_id (n := ((m - W : Nat) : Int)) (by omega) (by omega), Int.tdiv_eq_ediv_of_nonneg (by omega), ← Int.natCast_ediv]
  generalize (m - W) / S = z at h ⊢
  rw [wrap_id (n := (z : Int)) (by omega) (by omega), wrap_id (by omega) (by omega)]
  rfl
theorem fold_main (es data : List Int) (b l m B A W S : Nat) (hl6 : es.length + 1 ≤ 6) (hr : runOk 1 (es ++ [(W : Int)]) = true) (hre : runOk 1 es = true) (hdb : dimsB (es.set b (m : Int)) = true) (hb : b < es.length) (hl : es.getD b 0 = (l : Int)) (hA : prod (es.take b) = (A : Int)) (hB : prod (es.drop (b + 1)) = (B : Int)) (hd : (data.length : Int) = prod (es ++ [(W : Int)])) (hW : 0 < W) (hn : ∀ k < l, ∀ w < W, k * S + w < m) (hn4 : m ≤ 4096) (hnum : data.all numB = true) (hW4 : W ≤ 4096) (hl4 : l ≤ 4096) :
    ∃ y : List Int, Ev (fun K => spec_Fold.l0 K (b : Int) (S : Int) (es.length : Int) 0 (es ++ [(W : Int)]) data (es.set b (m : Int)) (List.replicate (prod (es.set b (m : Int))).toNat 0)) (es.set b (m : Int), y) ∧
      (∀ S', (∀ k < l, ∀ w < W, k * S' + w < m) → toQ m S' l B W = toQ m S l B W → Ev (fun K => impl_foldPairs.l0 K (es ++ [(W : Int)]) (S' : Int) (m : Int) (es.length : Int) (es.set b (m : Int)) (A : Int) (l : Int) (B : Int) [] 0) (es.set b (m : Int), pairsM m S l B W data.length, true)) ∧
      Ev (fun K => impl_moved.f K data (es.set b (m : Int)) (pairsM m S l B W data.length)) (es.set b (m : Int), y) ∧ y.length ≤ 4096 := by
  have hdb2 := hdb
  unfold dimsB at hdb2
  simp only [Bool.and_eq_true, decide_eq_true_eq] at hdb2
  have hr' := hdb2.2
  have p' := prod_le hr' 0
  have p := prod_le hr 0
  have pe := prod_le hre 0
  rw [List.drop_zero] at p p' pe
  have pt := prod_pos (run_take b hre)
  have pB := prod_le hre (b + 1)
  have sp := prod_split b es hb
  have sp' := prod_set es b (m : Int) hb
  rw [hA, hB, hl] at sp
  rw [hA, hB] at sp'
  have sn := prod_snoc es (W : Int)
  have hNN : data.length = A * l * B * W := by
    rw [sn, sp] at hd
    exact_mod_cast hd
  have hAnB : ((A * m * B : Nat) : Int) = prod (es.set b (m : Int)) := by rw [sp']; push_cast; rfl
  have hAlB : ((A * l * B : Nat) : Int) = prod es := by rw [sp]; push_cast; rfl
  have hN4 : A * l * B * W ≤ 4096 := by rw [← hNN]; omega
  have hn5 : A * m * B ≤ 4096 := by omega
  have hAl5 : A * l * B ≤ 4096 := by omega
  have hA1 : 1 ≤ A := by omega
  have hB1 : 1 ≤ B := by omega
  have hl1 : 1 ≤ l := by
    rcases Nat.eq_zero_or_pos l with h | h
    · subst h
      simp at hAlB
      omega
    · exact h
  have hA4 : A ≤ 4096 := Nat.le_trans (Nat.le_trans (Nat.le_mul_of_pos_right A hl1) (Nat.le_mul_of_pos_right _ hB1)) hAl5
  have hB4 : B ≤ 4096 := by omega
  have hgl : ∀ q < data.length, toQ m S l B W q < (prod (es.set b (m : Int))).toNat := by
    intro q hq
    have hqW : ((q / W : Nat) : Int) < prod es := by
      have h1 : (q : Int) < prod es * W := by rw [← sn]; omega
      rw [Int.natCast_ediv]
      exact Int.ediv_lt_of_lt_mul (by omega) h1
    have := toQ_lt es b l m B W S q hre hr' hb hl hB hW hn hqW
    omega
  have sl := fold_l0 es data b l m B W S hl6 hr hre hr' hb hl hB hd hW hn hn4 hnum data.length 0 (List.replicate (prod (es.set b (m : Int))).toNat 0) (by omega) (by omega) (by simp; omega) (zeros_num _)
  have mv := moved_ev (es.set b (m : Int)) data hdb (by simp; omega) hnum id (toQ m S l B W) data.length (by omega) (fun q hq => hq) hgl
  refine ⟨_, sl, ?_, mv, by rw [runM_len]; simp; omega⟩
  intro S' hS' hq
  have := fp_l0 (es ++ [(W : Int)]) (es.set b (m : Int)) A l B W m S' es.length (snoc_read rfl) (by simp) hN4 hn5 hA4 hB4 hl4 hW4 hS' hW A 0 (by omega) (by omega)
  rw [Nat.zero_mul, Nat.zero_mul, Nat.zero_mul, List.take_zero, ← hNN] at this
  unfold pairsM at this ⊢
  rw [hq] at this
  exact this
theorem fold_ev (ds data : List Int) (a st n : Int) (h1 : ds.length ≤ 1048576) (h2 : data.length ≤ 1048576) : ∃ x y, Ev (fun k => spec_Fold.f k ds data a st n) (x, y) ∧ Ev (fun k => impl_Fold.f k ds data a st n) (x, y) ∧ x.length ≤ 1048576 ∧ y.length ≤ 1048576 := by
  unfold spec_Fold.f impl_Fold.f impl_movedBy.f impl_Fold_1.f
  dsimp only
  have s := axis_ev ds data a h1 h2
  have t := itens_ev ds data (by omega) (by omega)
  have sj : ∀ L, Ev (fun k => spec_Fold.j0 k a st n L true ds data) (([] : List Int), ([] : List Int)) := by
    intro L
    refine Ev.succ ?_
    simp only [spec_Fold.j0]
    exact Ev.pos (by trivial) (Ev.some rfl)
  have sj1 : ∀ L, Ev (fun k => spec_Fold.j1 k a st n L true ds data) (([] : List Int), ([] : List Int)) := by
    intro L
    refine Ev.succ ?_
    simp only [spec_Fold.j1]
    exact Ev.pos (by trivial) (Ev.some rfl)
  have ij : ∀ L, Ev (fun k => impl_foldPairs.j0 k ds a st n L true) (([] : List Int), ([] : List S113), false) := by
    intro L
    refine Ev.succ ?_
    simp only [impl_foldPairs.j0]
    exact Ev.pos (by trivial) (Ev.some rfl)
  cases ht : tensB ds data with
  | false =>
    rw [ht] at s t
    exact ⟨[], [], Ev.bind s (Ev.neg (by simp) (sj _)), Ev.bind (a := (([] : List Int), ([] : List Int))) (Ev.bind t (Ev.neg (by simp) (Ev.some rfl))) (Ev.some rfl), by simp, by simp⟩
  | true =>
    have none_ : Ev (fun k => impl_foldPairs.f k ds a st n) (([] : List Int), ([] : List S113), false) → Ev (fun k => ((impl_TensorOk.f k ds data).bind fun t280 => (if t280 = true then ((impl_foldPairs.f k ds a st n).bind fun bt281 => (if bt281.2.2 = true then ((impl_moved.f k data bt281.1 bt281.2.1).bind fun bt288 => (some (bt288.1, bt288.2))) else (some (([] : List Int), ([] : List Int))))) else (some (([] : List Int), ([] : List Int))))).bind fun bt296 => (some (bt296.1, bt296.2))) (([] : List Int), ([] : List Int)) := by
      intro h
      rw [ht] at t
      exact Ev.bind (a := (([] : List Int), ([] : List Int))) (Ev.bind t (Ev.pos rfl (Ev.bind h (Ev.neg (by simp) (Ev.some rfl))))) (Ev.some rfl)
    cases hx : (decide (0 ≤ a) && decide (a < (ds.length : Int))) with
    | false =>
      rw [ht, hx] at s
      have ia := isAxis_f ds a
      rw [hx] at ia
      refine ⟨[], [], Ev.bind s (Ev.neg (by simp) (sj _)), none_ ?_, by simp, by simp⟩
      unfold impl_foldPairs.f
      exact Ev.b ia (Ev.neg (by simp) (ij _))
    | true =>
      rw [ht, hx] at s
      have ia := isAxis_f ds a
      rw [hx] at ia
      simp only [Bool.and_eq_true, decide_eq_true_eq] at hx
      obtain ⟨b, rfl⟩ := Int.eq_ofNat_of_zero_le hx.1
      have hb : b < ds.length := by omega
      obtain ⟨es, w', rfl⟩ := snoc_of ds (by intro h; rw [h] at hb; simp at hb)
      have ht' := ht
      unfold tensB dimsB at ht'
      simp only [Bool.and_eq_true, decide_eq_true_eq] at ht'
      obtain ⟨⟨hl6, hr⟩, hd, hnum⟩ := ht'
      have hall := run_all hr
      have hw' := hall w' (by simp)
      obtain ⟨W, rfl⟩ := Int.eq_ofNat_of_zero_le (by omega : 0 ≤ w')
      have hlen : (es ++ [(W : Int)]).length = es.length + 1 := by simp
      have hL : wrap64 (((es ++ [(W : Int)]).length : Int) - 1) = (es.length : Int) := by
        rw [hlen, wrap_id (by omega) (by omega)]
        omega
      have hre : runOk 1 es = true := by
        have := run_take es.length hr
        rwa [List.take_left' rfl] at this
      by_cases c1 : (b : Int) = (es.length : Int)
      · refine ⟨[], [], Ev.bind s (Ev.pos rfl (Ev.pos (by rw [hL]; exact c1) (sj _))), none_ ?_, by simp, by simp⟩
        unfold impl_foldPairs.f
        exact Ev.b ia (Ev.pos rfl (Ev.pos (by rw [hL]; exact c1) (ij _)))
      have c1' : ¬ (b : Int) = wrap64 (((es ++ [(W : Int)]).length : Int) - 1) := by rw [hL]; exact c1
      have hbe : b < es.length := by omega
      by_cases c2 : st < 1
      · refine ⟨[], [], Ev.bind s (Ev.pos rfl (Ev.neg c1' (Ev.pos c2 (sj _)))), none_ ?_, by simp, by simp⟩
        unfold impl_foldPairs.f
        exact Ev.b ia (Ev.pos rfl (Ev.neg c1' (Ev.pos c2 (ij _))))
      by_cases c3 : n < 1
      · refine ⟨[], [], Ev.bind s (Ev.pos rfl (Ev.neg c1' (Ev.neg c2 (Ev.pos c3 (sj _))))), none_ ?_, by simp, by simp⟩
        unfold impl_foldPairs.f
        exact Ev.b ia (Ev.pos rfl (Ev.neg c1' (Ev.neg c2 (Ev.pos c3 (ij _)))))
      by_cases c4 : n > 4096
      · refine ⟨[], [], Ev.bind s (Ev.pos rfl (Ev.neg c1' (Ev.neg c2 (Ev.neg c3 ?_)))), none_ ?_, by simp, by simp⟩
        · rw [decide_eq_true c4]
          exact sj _
        · unfold impl_foldPairs.f
          exact Ev.b ia (Ev.pos rfl (Ev.neg c1' (Ev.neg c2 (Ev.neg c3 (Ev.pos c4 (ij _))))))
      obtain ⟨m, rfl⟩ := Int.eq_ofNat_of_zero_le (by omega : 0 ≤ n)
      obtain ⟨S, rfl⟩ := Int.eq_ofNat_of_zero_le (by omega : 0 ≤ st)
      have rL : rd (es ++ [(W : Int)]) (es.length : Int) = (W : Int) := snoc_read rfl
      have hsE : ∀ {r}, Ev (fun k => spec_Fold.j0 k (b : Int) (S : Int) (m : Int) (es.length : Int) false (es ++ [(W : Int)]) data) r → Ev (fun k => (spec_l4Axis.f k (es ++ [(W : Int)]) data (b : Int)).bind fun t182 => (if t182 = true then (if (b : Int) = (wrap64 (((es ++ [(W : Int)]).length : Int) - 1)) then (spec_Fold.j0 k (b : Int) (S : Int) (m : Int) (wrap64 (((es ++ [(W : Int)]).length : Int) - 1)) true (es ++ [(W : Int)]) data) else (if (S : Int) < 1 then (spec_Fold.j0 k (b : Int) (S : Int) (m : Int) (wrap64 (((es ++ [(W : Int)]).length : Int) - 1)) true (es ++ [(W : Int)]) data) else (if (m : Int) < 1 then (spec_Fold.j0 k (b : Int) (S : Int) (m : Int) (wrap64 (((es ++ [(W : Int)]).length : Int) - 1)) true (es ++ [(W : Int)]) data) else (spec_Fold.j0 k (b : Int) (S : Int) (m : Int) (wrap64 (((es ++ [(W : Int)]).length : Int) - 1)) (decide ((m : Int) > 4096)) (es ++ [(W : Int)]) data)))) else (spec_Fold.j0 k (b : Int) (S : Int) (m : Int) (wrap64 (((es ++ [(W : Int)]).length : Int) - 1)) true (es ++ [(W : Int)]) data))) r := by
        intro r h
        refine Ev.bind s (Ev.pos rfl (Ev.neg c1' (Ev.neg c2 (Ev.neg c3 ?_))))
        rw [hL, decide_eq_false c4]
        exact h
      by_cases c5 : (W : Int) > (m : Int)
      · refine ⟨[], [], hsE (Ev.succ ?_), none_ ?_, by simp, by simp⟩
        · simp only [spec_Fold.j0]
          rw [rL]
          exact Ev.neg (by simp) (Ev.pos (by omega) (Ev.pos (by omega) (Ev.pos c5 (sj1 _))))
        · unfold impl_foldPairs.f
          rw [hL, rL]
          exact Ev.b ia (Ev.pos rfl (Ev.neg c1 (Ev.neg c2 (Ev.neg c3 (Ev.neg c4 (Ev.pos (by omega) (Ev.pos (by omega) (Ev.pos c5 (ij _)))))))))
      have hWm : W ≤ m := by omega
      have fv := flag_val (S := S) hWm (by omega) (by omega)
      have hrb : rd (es ++ [(W : Int)]) (b : Int) = rd es (b : Int) := snoc_rd hbe
      have hdb' := hall (es[b]) (by simp)
      obtain ⟨l, el⟩ := Int.eq_ofNat_of_zero_le (by omega : 0 ≤ es[b])
      have hrb2 : rd (es ++ [(W : Int)]) (b : Int) = (l : Int) := by rw [hrb, rd_at hbe, el]
      have helD : es.getD b 0 = (l : Int) := by rw [List.getD_eq_getElem?_getD, List.getElem?_eq_getElem hbe, Option.getD_some, el]
      have hsF : ∀ {r}, Ev (fun k => spec_Fold.j1 k (b : Int) (S : Int) (m : Int) (es.length : Int) ((((m - W) / S + 1 : Nat) : Int) != (l : Int)) (es ++ [(W : Int)]) data) r → Ev (fun k => spec_Fold.j0 k (b : Int) (S : Int) (m : Int) (es.length : Int) false (es ++ [(W : Int)]) data) r := by
        intro r h
        refine Ev.succ ?_
        simp only [spec_Fold.j0]
        rw [rL, hrb2, fv]
        exact Ev.neg (by simp) (Ev.pos (by omega) (Ev.pos (by omega) (Ev.neg c5 (Ev.neg (by omega) (Ev.pos (by omega) (Ev.pos (by omega) h))))))
      have hiF : ∀ {r}, Ev (fun k => impl_foldPairs.j0 k (es ++ [(W : Int)]) (b : Int) (S : Int) (m : Int) (es.length : Int) ((l : Int) != (((m - W) / S + 1 : Nat) : Int))) r → Ev (fun k => impl_foldPairs.f k (es ++ [(W : Int)]) (b : Int) (S : Int) (m : Int)) r := by
        intro r h
        unfold impl_foldPairs.f
        rw [hL, rL, hrb2, fv]
        exact Ev.b ia (Ev.pos rfl (Ev.neg c1 (Ev.neg c2 (Ev.neg c3 (Ev.neg c4 (Ev.pos (by omega) (Ev.pos (by omega) (Ev.neg c5 (Ev.pos (by omega) (Ev.pos (by omega) (Ev.neg (by omega) h)))))))))))
      have FV := Aside0.mk (And.intro fv (And.intro hL (And.intro rL (And.intro hrb2 helD))))
      clear fv hL rL hrb hrb2 helD
      by_cases c6 : l = (m - W) / S + 1
      · have hlw := steps_lt hWm c6
        have sd := sdims_ev (es.set b (m : Int)) (by simp; omega)
        have dd := idims_ev (es.set b (m : Int)) (by simp; omega)
        have etk : ((es ++ [(W : Int)]).set b (m : Int)).take ((es.length : Nat) : Int).toNat = es.set b (m : Int) := by
          rw [Int.toNat_natCast, List.set_append_left _ _ hbe, List.take_left' (by simp)]
        have c6b1 : ((((m - W) / S + 1 : Nat) : Int) != (l : Int)) = false := by rw [← c6]; simp
        have c6b2 : ((l : Int) != (((m - W) / S + 1 : Nat) : Int)) = false := by rw [← c6]; simp
        clear c6
        have wS := with_f (es ++ [(W : Int)]) b (m : Int) hb (by omega)
        have wI := iwith_f (es ++ [(W : Int)]) b (m : Int) hb (by omega)
        cases hdb2 : dimsB (es.set b (m : Int)) with
        | false =>
          rw [hdb2] at sd dd
          refine ⟨[], [], hsE (hsF ?_), none_ (hiF ?_), by simp, by simp⟩
          · rw [c6b1]
            refine Ev.succ ?_
            simp only [spec_Fold.j1]
            exact Ev.neg (by simp) (Ev.b wS (Ev.pos (by omega) (Ev.pos (by rw [List.length_set]; omega) (Ev.b (congrArg some etk) (Ev.bind sd (Ev.neg (by simp) (Ev.some rfl)))))))
          · rw [c6b2]
            refine Ev.succ ?_
            simp only [impl_foldPairs.j0]
            exact Ev.neg (by simp) (Ev.b wI (Ev.pos (by omega) (Ev.pos (by rw [List.length_set]; omega) (Ev.b (congrArg some etk) (Ev.bind dd (Ev.neg (by simp) (Ev.some rfl)))))))
        | true =>
          rw [hdb2] at sd dd
          have pt := prod_pos (run_take b hre)
          have pB := prod_le hre (b + 1)
          obtain ⟨A, eA⟩ := Int.eq_ofNat_of_zero_le (by omega : 0 ≤ prod (es.take b))
          obtain ⟨B, eB⟩ := Int.eq_ofNat_of_zero_le (by omega : 0 ≤ prod (es.drop (b + 1)))
          obtain ⟨y, g1, g2, g3, g4⟩ := fold_main es data b l m B A W S (by omega) hr hre hdb2 hbe FV.out.2.2.2.2 eA eB hd (by omega) hlw (by omega) hnum (by omega) (by omega)
          have ln := lines_ev es b (by omega) hre hbe
          rw [eA, FV.out.2.2.2.2, eB] at ln
          have hdb3 := hdb2
          unfold dimsB at hdb3
          simp only [Bool.and_eq_true, decide_eq_true_eq] at hdb3
          have sz := size_ev (es.set b (m : Int)) (by simp; omega)
          rw [if_pos hdb3.2] at sz
          have p' := prod_le hdb3.2 0
          rw [List.drop_zero] at p'
          refine ⟨es.set b (m : Int), y, hsE (hsF ?_), ?_, by simp; omega, by omega⟩
          · rw [c6b1]
            refine Ev.succ ?_
            simp only [spec_Fold.j1]
            refine Ev.neg (by simp) (Ev.b wS (Ev.pos (by omega) (Ev.pos (by rw [List.length_set]; omega) (Ev.b (congrArg some etk) (Ev.bind sd (Ev.pos rfl (Ev.bind (a := (es.set b (m : Int), List.replicate (prod (es.set b (m : Int))).toNat 0)) ?_ g1)))))))
            unfold spec_l4New.f
            exact Ev.b (l3Ints_f _ (by simp; omega)) (Ev.bind sz (Ev.pos (by omega) (Ev.pos (by omega) (Ev.some rfl))))
          · have i1 : Ev (fun k => impl_foldPairs.f k (es ++ [(W : Int)]) (b : Int) (S : Int) (m : Int)) (es.set b (m : Int), pairsM m S l B W data.length, true) := by
              refine hiF ?_
              rw [c6b2]
              refine Ev.succ ?_
              simp only [impl_foldPairs.j0]
              have jj : ∀ S' : Nat, (∀ k < l, ∀ w < W, k * S' + w < m) → toQ m S' l B W = toQ m S l B W → Ev (fun k => impl_foldPairs.j1 k (es ++ [(W : Int)]) (b : Int) (S' : Int) (m : Int) (es.length : Int) (es.set b (m : Int))) (es.set b (m : Int), pairsM m S l B W data.length, true) := by
                intro S' h1 h2
                refine Ev.succ ?_
                simp only [impl_foldPairs.j1]
                rw [Int.toNat_natCast, List.take_left' rfl]
                exact Ev.pos (by omega) (Ev.pos (by omega) (Ev.bind ln (g2 S' h1 h2)))
              refine Ev.neg (by simp) (Ev.b wI (Ev.pos (by omega) (Ev.pos (by rw [List.length_set]; omega) (Ev.b (congrArg some etk) (Ev.bind dd (Ev.pos rfl (Ev.pos (by omega) (Ev.pos (by omega) ?_))))))))
              rw [FV.out.2.2.2.1]
              refine Ev.ite (fun h => ?_) (fun h => jj S hlw rfl)
              obtain rfl : l = 1 := by omega
              refine jj 0 (fun k hk w hw => ?_) (toQ_one _ _ _ _ _)
              rw [Nat.mul_zero, Nat.zero_add]
              omega
            rw [ht] at t
            exact Ev.bind (a := (es.set b (m : Int), y)) (Ev.bind t (Ev.pos rfl (Ev.bind i1 (Ev.pos rfl (Ev.bind g3 (Ev.some rfl)))))) (Ev.some rfl)
      · have c6b1 : ((((m - W) / S + 1 : Nat) : Int) != (l : Int)) = true := bne_iff_ne.2 (fun h => c6 (Int.ofNat.inj h).symm)
        have c6b2 : ((l : Int) != (((m - W) / S + 1 : Nat) : Int)) = true := bne_iff_ne.2 (fun h => c6 (Int.ofNat.inj h))
        refine ⟨[], [], hsE (hsF ?_), none_ (hiF ?_), by simp, by simp⟩
        · rw [c6b1]
          exact sj1 _
        · rw [c6b2]
          exact ij _
theorem rest (l0 l1 : List Int) (a b c : Int) (x y : List Int) (h0 : l0.length ≤ 1048576) (h1 : l1.length ≤ 1048576) (hx : x.length ≤ 1048576) (hy : y.length ≤ 1048576) (hi : Ev (fun k => impl_Fold.f k l0 l1 a b c) (x, y)) : Ev (fun k => laws_FnExactFold.j0 k a b c false l0 l1 x y x y) true := by
  have m := markTensor_ev x y hx hy
  have h : Ev (fun k => laws_heldTensor.f k (ups 1 x.length) (ups (1 + (x.length : Int)) y.length) 1) (1 + (x.length : Int) + y.length) := by
    unfold laws_heldTensor.f
    exact Ev.bind (held_ev x.length 1 (by omega) (by omega)) (Ev.neg (by omega) (Ev.bind (held_ev y.length _ (by omega) (by omega)) (Ev.neg (by omega) (Ev.some rfl))))
  refine Ev.succ ?_
  simp only [laws_FnExactFold.j0]
  exact Ev.neg (by simp) (Ev.bind m (Ev.bind h (Ev.neg (by omega) (Ev.pos rfl (Ev.bind (toTensor_ev l0 l1 h0 h1) (Ev.bind hi (Ev.bind (eqTensor_ev x y hx hy) (Ev.pos rfl (Ev.bind h (Ev.neg (by omega) (Ev.pos rfl (Ev.some rfl))))))))))))
theorem FnExactFold (l0 l1 : List Int) (a b c : Int) {p q : Int → Prop} (hg : (l0.length ≤ maxLen ∧ ∀ y ∈ l0, p y) ∧ (l1.length ≤ maxLen ∧ ∀ y ∈ l1, q y)) : ∃ k, laws_FnExactFold.f k l0 l1 a b c = some true := by
  have h0 : l0.length ≤ 9223372036854775807 := hg.1.1
  have h1 : l1.length ≤ 9223372036854775807 := hg.2.1
  apply Ev.rounds
  unfold laws_FnExactFold.f
  obtain ⟨q, hq, hz⟩ := szTensor_f l0 l1 h0 h1
  refine Ev.b hq ?_
  rcases hz with hz | ⟨hz, g0, g1⟩
  · exact Ev.pos hz (Ev.some rfl)
  refine Ev.neg (by omega) ?_
  have t := toTensor_ev l0 l1 g0 g1
  obtain ⟨x, y, hs, hi, hx, hy⟩ := fold_ev l0 l1 a b c g0 g1
  refine Ev.bind t (Ev.bind hs (Ev.bind t (Ev.bind hi (Ev.bind (eqTensor_ev x y hx hy) (Ev.pos rfl (Ev.bind t (Ev.bind (eqTensor_ev l0 l1 g0 g1) (Ev.pos rfl (Ev.bind (markTensor_ev l0 l1 g0 g1) (Ev.neg (by simp; omega) (Ev.bind (eqTensor_ev x y hx hy) ?_)))))))))))
  exact rest l0 l1 a b c x y g0 g1 hx hy hi
end Go.Proofs.Ytcpemdedmepfeab.PureFnExactFold
