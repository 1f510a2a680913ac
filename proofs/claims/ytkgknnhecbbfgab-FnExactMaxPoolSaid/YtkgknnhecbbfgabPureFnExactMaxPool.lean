/- The greatest of each patch: program and reference tell the same tensor, whatever the numbers; no condition. -/
import Derived.Test.YtkgknnhecbbfgabPFnExactMaxPoolx
import Derived.Test.YtkgknnhecbbfgabBase
import Derived.Test.YtkgknnhecbbfgabVMq
namespace Go.Proofs.Ytkgknnhecbbfgab.PureFnExactMaxPool
set_option linter.unusedVariables false
set_option linter.unusedSimpArgs false
open Go.RowKit Go.Proofs.Ytkgknnhecbbfgab.PFnExactMaxPool Go.Proofs.YtkgknnhecbbfgabW.PrintWords Go.Proofs.YtkgknnhecbbfgabW.PrintLast Go.Proofs.YtkgknnhecbbfgabW.PrintMore Go.Proofs.Ytkgknnhecbbfgab.Base Go.Proofs.Ytkgknnhecbbfgab.VMq
/-! ### lists of whole numbers taken over and held against each other -/
theorem toIntS_l (l : List Int) (hn : l.length ≤ 9223372036854775807) : ∀ (d i : Nat), l.length - i = d → i ≤ l.length → Ev (fun k => laws_toIntS.l0 k l (l.take i ++ List.replicate (l.length - i) 0) (i : Int)) l := by
  intro d
  induction d with
  | zero =>
    intro i hd hi
    refine Ev.succ ?_
    simp only [laws_toIntS.l0]
    refine Ev.neg (by omega) (Ev.some ?_)
    rw [hd, List.take_of_length_le (by omega)]
    simp
  | succ d ih =>
    intro i hd hi
    refine Ev.succ ?_
    simp only [laws_toIntS.l0]
    have hlt : i < l.length := by omega
    refine Ev.pos (by omega) (Ev.pos (by omega) (Ev.pos (by simp; omega) ?_))
    rw [rd_at hlt, up i hlt hn, Int.toNat_natCast, set_copy hlt]
    exact ih (i + 1) (by omega) (by omega)
theorem toIntS_ev (l : List Int) (h : l.length ≤ 35184372088832) : Ev (fun k => laws_toIntS.f k l) l := by
  unfold laws_toIntS.f
  refine Ev.pos (by omega) (Ev.pos (by omega) ?_)
  have := toIntS_l l (by omega) l.length 0 (by omega) (by omega)
  simpa using this
theorem eqIntS_l (l : List Int) (hn : l.length ≤ 9223372036854775807) : ∀ (d i : Nat), l.length - i = d → i ≤ l.length → Ev (fun k => laws_eqIntS.l0 k l l (i : Int)) true := by
  intro d
  induction d with
  | zero =>
    intro i hd hi
    refine Ev.succ ?_
    simp only [laws_eqIntS.l0]
    exact Ev.neg (by omega) (Ev.some rfl)
  | succ d ih =>
    intro i hd hi
    refine Ev.succ ?_
    simp only [laws_eqIntS.l0]
    have hlt : i < l.length := by omega
    refine Ev.pos (by omega) (Ev.pos (by omega) (Ev.pos (by omega) (Ev.pos (by trivial) ?_)))
    rw [up i hlt hn]
    exact ih (i + 1) (by omega) (by omega)
theorem eqIntS_ev (l : List Int) (h : l.length ≤ 9223372036854775807) : Ev (fun k => laws_eqIntS.f k l l) true := by
  unfold laws_eqIntS.f
  exact Ev.pos rfl (eqIntS_l l (by omega) l.length 0 (by omega) (by omega))
/-! ### lengths -/
theorem size_l (l : List Int) (hn : l.length ≤ 9223372036854775807) : ∀ (d i : Nat) (n : Int), l.length - i = d → i ≤ l.length → 1 ≤ n → n ≤ 4096 → Ev (fun k => spec_l3Size.l0 k l n (i : Int)) (if runOk n (l.drop i) = true then n * prod (l.drop i) else 0) := by
  intro d
  induction d with
  | zero =>
    intro i n hd hi h0 h1
    refine Ev.succ ?_
    simp only [spec_l3Size.l0]
    refine Ev.neg (by omega) (Ev.some ?_)
    rw [List.drop_eq_nil_of_le (by omega)]
    simp [runOk, prod]
  | succ d ih =>
    intro i n hd hi h0 h1
    have hlt : i < l.length := by omega
    refine Ev.succ ?_
    simp only [spec_l3Size.l0]
    refine Ev.pos (by omega) (Ev.pos (by omega) ?_)
    rw [rd_at hlt, drop_at hlt]
    refine Ev.ite (fun h => Ev.succ ?_) (fun h => Ev.succ ?_)
    · simp only [spec_l3Size.j1]
      refine Ev.pos (by trivial) (Ev.some ?_)
      simp [runOk, h]
    · simp only [spec_l3Size.j1]
      by_cases h2 : 4096 < l[i]
      · refine Ev.pos (by simpa using h2) (Ev.some ?_)
        simp [runOk, h, h2]
      · have p1 : n * l[i] ≤ 4096 * 4096 := Int.mul_le_mul h1 (by omega) (by omega) (by omega)
        have p0 : 1 * 1 ≤ n * l[i] := Int.mul_le_mul h0 (by omega) (by omega) (by omega)
        refine Ev.neg (by simpa using h2) (Ev.pos (by omega) (Ev.pos (by omega) ?_))
        rw [rd_at hlt, wrap_id (by omega : -9223372036854775808 ≤ n * l[i]) (by omega), up i hlt hn]
        refine Ev.ite (fun h3 => Ev.some ?_) (fun h3 => ?_)
        · simp [runOk, h, h2, show 4096 < n * l[i] from h3]
        · have e : runOk n (l[i] :: l.drop (i + 1)) = runOk (n * l[i]) (l.drop (i + 1)) := by
            simp [runOk, h, h2, show ¬ 4096 < n * l[i] from h3]
          rw [e]
          simp only [prod]
          rw [← Int.mul_assoc]
          exact ih (i + 1) _ (by omega) (by omega) (by omega) (by omega)
theorem size_ev (l : List Int) (hn : l.length ≤ 9223372036854775807) : Ev (fun k => spec_l3Size.f k l) (if runOk 1 l = true then prod l else 0) := by
  have := size_l l hn l.length 0 1 (by omega) (by omega) (by omega) (by omega)
  rw [Int.one_mul] at this
  exact this
/-- Lengths that can be. -/
def dimsB (l : List Int) : Bool := decide (l.length ≤ 6) && runOk 1 l
theorem sdims_ev (l : List Int) (hn : l.length ≤ 9223372036854775807) : Ev (fun k => spec_DimsOk.f k l) (dimsB l) := by
  unfold spec_DimsOk.f dimsB
  refine Ev.ite (fun h => Ev.bind (size_ev l hn) (Ev.some ?_)) (fun h => Ev.some ?_)
  · rw [show decide (l.length ≤ 6) = true from decide_eq_true (by omega), Bool.true_and]
    cases hr : runOk 1 l with
    | true =>
      have := prod_pos hr
      simp
      omega
    | false => simp
  · rw [show decide (l.length ≤ 6) = false from decide_eq_false (by omega)]
    rfl
theorem idims_l (l : List Int) (hn : l.length ≤ 9223372036854775807) : ∀ (d i : Nat) (n : Int), l.length - i = d → i ≤ l.length → 1 ≤ n → n ≤ 4096 → Ev (fun k => impl_DimsOk.l0 k l n l (l.length : Int) (i : Int)) (decide (l.length ≤ 6) && runOk n (l.drop i)) := by
  intro d
  induction d with
  | zero =>
    intro i n hd hi h0 h1
    refine Ev.succ ?_
    simp only [impl_DimsOk.l0]
    refine Ev.neg (by omega) (Ev.some ?_)
    rw [List.drop_eq_nil_of_le (by omega)]
    simp only [runOk, Bool.and_true]
    exact decide_eq_decide.2 (by omega)
  | succ d ih =>
    intro i n hd hi h0 h1
    have hlt : i < l.length := by omega
    refine Ev.succ ?_
    simp only [impl_DimsOk.l0]
    refine Ev.pos (by omega) (Ev.pos (by omega) (Ev.pos (by omega) ?_))
    rw [rd_at hlt, drop_at hlt]
    refine Ev.ite (fun h => Ev.succ ?_) (fun h => Ev.succ ?_)
    · simp only [impl_DimsOk.j1]
      refine Ev.pos (by trivial) (Ev.some ?_)
      simp [runOk, h]
    · simp only [impl_DimsOk.j1]
      by_cases h2 : 4096 < l[i]
      · refine Ev.pos (by simpa using h2) (Ev.some ?_)
        simp [runOk, h, h2]
      · have p1 : n * l[i] ≤ 4096 * 4096 := Int.mul_le_mul h1 (by omega) (by omega) (by omega)
        have p0 : 1 * 1 ≤ n * l[i] := Int.mul_le_mul h0 (by omega) (by omega) (by omega)
        refine Ev.neg (by simpa using h2) ?_
        rw [wrap_id (by omega : -9223372036854775808 ≤ n * l[i]) (by omega), up i hlt hn]
        refine Ev.ite (fun h3 => Ev.some ?_) (fun h3 => ?_)
        · simp [runOk, h, h2, show 4096 < n * l[i] from h3]
        · have e : runOk n (l[i] :: l.drop (i + 1)) = runOk (n * l[i]) (l.drop (i + 1)) := by
            simp [runOk, h, h2, show ¬ 4096 < n * l[i] from h3]
          rw [e]
          exact ih (i + 1) _ (by omega) (by omega) (by omega) (by omega)
theorem idims_ev (l : List Int) (hn : l.length ≤ 9223372036854775807) : Ev (fun k => impl_DimsOk.f k l) (dimsB l) := idims_l l hn l.length 0 1 (by omega) (by omega) (by omega) (by omega)
theorem product_l (l : List Int) (hn : l.length ≤ 9223372036854775807) : ∀ (d i : Nat) (n : Int), l.length - i = d → i ≤ l.length → 1 ≤ n → n ≤ 4096 → runOk n (l.drop i) = true → Ev (fun k => impl_product.l0 k n l (l.length : Int) (i : Int)) (n * prod (l.drop i)) := by
  intro d
  induction d with
  | zero =>
    intro i n hd hi h0 h1 hr
    refine Ev.succ ?_
    simp only [impl_product.l0]
    refine Ev.neg (by omega) (Ev.some ?_)
    rw [List.drop_eq_nil_of_le (by omega)]
    simp [prod]
  | succ d ih =>
    intro i n hd hi h0 h1 hr
    have hlt : i < l.length := by omega
    rw [drop_at hlt] at hr ⊢
    obtain ⟨h2, h3, h4, h5⟩ := runOk_cons hr
    have p0 : 1 * 1 ≤ n * l[i] := Int.mul_le_mul h0 h2 (by omega) (by omega)
    refine Ev.succ ?_
    simp only [impl_product.l0]
    refine Ev.pos (by omega) (Ev.pos (by omega) (Ev.pos (by omega) ?_))
    rw [rd_at hlt, up i hlt hn, wrap_id (by omega : -9223372036854775808 ≤ n * l[i]) (by omega)]
    simp only [prod]
    rw [← Int.mul_assoc]
    exact ih (i + 1) _ (by omega) (by omega) (by omega) h4 h5
theorem product_ev (l : List Int) (hn : l.length ≤ 9223372036854775807) (hr : runOk 1 l = true) : Ev (fun k => impl_product.f k l) (prod l) := by
  have := product_l l hn l.length 0 1 (by omega) (by omega) (by omega) (by omega) hr
  rw [Int.one_mul] at this
  exact this
/-! ### marks: written into what was made, and found there again -/
def ups (a : Int) : Nat → List Int
  | 0 => []
  | n + 1 => a :: ups (a + 1) n
theorem ups_len : ∀ (n : Nat) (a : Int), (ups a n).length = n
  | 0, _ => rfl
  | n + 1, a => by simp [ups, ups_len n]
theorem ups_at : ∀ (n : Nat) (a : Int) (i : Nat) (h : i < (ups a n).length), (ups a n)[i] = a + i
  | 0, _, _, h => by simp [ups] at h
  | n + 1, a, 0, _ => by simp [ups]
  | n + 1, a, i + 1, h => by
    simp only [ups, List.getElem_cons_succ]
    rw [ups_at n (a + 1) i (by simpa [ups] using h)]
    omega
theorem set_over {β : Type} {L l : List β} {i : Nat} (h : i < L.length) (hl : l.length = L.length) : (L.take i ++ l.drop i).set i L[i] = L.take (i + 1) ++ l.drop (i + 1) := by
  have h' : i < l.length := by omega
  rw [List.drop_eq_getElem_cons h', List.set_append_right _ _ (by simp; omega), List.length_take, Nat.min_eq_left (by omega), Nat.sub_self, List.set_cons_zero, List.take_succ_eq_append_getElem h, List.append_assoc]
  rfl
theorem mark_l (l : List Int) (a : Int) (h0 : 0 ≤ a) (h1 : a + l.length ≤ 4611686018427387904) : ∀ (d i : Nat), l.length - i = d → i ≤ l.length → Ev (fun k => laws_markIntS.l0 k ((ups a l.length).take i ++ l.drop i) (a + i) (i : Int)) (a + l.length, ups a l.length) := by
  intro d
  induction d with
  | zero =>
    intro i hd hi
    refine Ev.succ ?_
    simp only [laws_markIntS.l0]
    have e : (ups a l.length).take i ++ l.drop i = ups a l.length := by
      rw [List.drop_eq_nil_of_le (by omega), List.append_nil, List.take_of_length_le (by rw [ups_len]; omega)]
    rw [e]
    exact Ev.neg (by rw [ups_len]; omega) (Ev.some (by rw [show i = l.length by omega]))
  | succ d ih =>
    intro i hd hi
    refine Ev.succ ?_
    simp only [laws_markIntS.l0]
    have hu : i < (ups a l.length).length := by rw [ups_len]; omega
    refine Ev.pos (by simp [ups_len]; omega) (Ev.pos (by omega) ?_)
    have e := set_over hu (l := l) (by rw [ups_len])
    rw [ups_at l.length a i hu] at e
    rw [Int.toNat_natCast, e, up i (by omega : i < l.length) (by omega), wrap_id (by omega) (by omega), show a + (i : Int) + 1 = a + ((i + 1 : Nat) : Int) by omega]
    exact ih (i + 1) (by omega) (by omega)
theorem mark_ev (l : List Int) (a : Int) (h0 : 0 ≤ a) (h1 : a + l.length ≤ 4611686018427387904) : Ev (fun k => laws_markIntS.f k l a) (a + l.length, ups a l.length) := by
  unfold laws_markIntS.f
  have := mark_l l a h0 h1 l.length 0 (by omega) (by omega)
  simpa using this
/-! ### tensors that can be -/
def numB (x : Int) : Bool := decide (0 ≤ x) && decide (x < 2147483647)
def tensB (dims data : List Int) : Bool := dimsB dims && (decide ((data.length : Int) = prod dims) && data.all numB)
theorem stens_l (dims l : List Int) (hn : l.length ≤ 9223372036854775807) : ∀ (d i : Nat), l.length - i = d → i ≤ l.length → Ev (fun k => spec_TensorOk.l0 k (i : Int) dims l) ((l.drop i).all numB) := by
  intro d
  induction d with
  | zero =>
    intro i hd hi
    refine Ev.succ ?_
    simp only [spec_TensorOk.l0]
    refine Ev.neg (by omega) (Ev.some ?_)
    rw [List.drop_eq_nil_of_le (by omega)]
    rfl
  | succ d ih =>
    intro i hd hi
    have hlt : i < l.length := by omega
    refine Ev.succ ?_
    simp only [spec_TensorOk.l0]
    refine Ev.pos (by omega) (Ev.pos (by omega) ?_)
    rw [rd_at hlt, drop_at hlt, List.all_cons, up i hlt hn]
    refine Ev.ite (fun h => Ev.some ?_) (fun h => Ev.ite (fun h2 => Ev.some ?_) (fun h2 => ?_))
    · simp [numB, show ¬ (0 ≤ l[i]) by omega]
    · simp [numB, show ¬ (l[i] < 2147483647) by omega]
    · rw [show numB l[i] = true by simp [numB]; omega, Bool.true_and]
      exact ih (i + 1) (by omega) (by omega)
theorem stens_ev (dims l : List Int) (hd : dims.length ≤ 9223372036854775807) (hn : l.length ≤ 9223372036854775807) : Ev (fun k => spec_TensorOk.f k dims l) (tensB dims l) := by
  unfold spec_TensorOk.f tensB
  refine Ev.bind (sdims_ev dims hd) ?_
  cases hb : dimsB dims with
  | false =>
    refine Ev.neg (by simp) (Ev.succ ?_)
    simp only [spec_TensorOk.j0]
    exact Ev.pos (by trivial) (Ev.some rfl)
  | true =>
    have hb' := hb
    unfold dimsB at hb'
    simp only [Bool.and_eq_true, decide_eq_true_eq] at hb'
    have e := size_ev dims hd
    rw [if_pos hb'.2] at e
    refine Ev.pos rfl (Ev.bind e (Ev.succ ?_))
    simp only [spec_TensorOk.j0, Bool.true_and]
    by_cases h : (l.length : Int) = prod dims
    · refine Ev.neg (by simpa using h) ?_
      rw [decide_eq_true h, Bool.true_and]
      exact stens_l dims l hn l.length 0 (by omega) (by omega)
    · refine Ev.pos (by simpa using h) (Ev.some ?_)
      rw [decide_eq_false h]
      rfl
theorem isnum_f (x : Int) : impl_isNum.f x = some (numB x) := by
  unfold impl_isNum.f numB
  split
  · next h => rw [decide_eq_true (show 0 ≤ x by omega), Bool.true_and]
  · next h => rw [decide_eq_false (show ¬ 0 ≤ x by omega), Bool.false_and]
theorem nums_l (l : List Int) (hn : l.length ≤ 9223372036854775807) : ∀ (d i : Nat), l.length - i = d → i ≤ l.length → Ev (fun k => impl_allNums.l0 k l (l.length : Int) (i : Int)) ((l.drop i).all numB) := by
  intro d
  induction d with
  | zero =>
    intro i hd hi
    refine Ev.succ ?_
    simp only [impl_allNums.l0]
    refine Ev.neg (by omega) (Ev.some ?_)
    rw [List.drop_eq_nil_of_le (by omega)]
    rfl
  | succ d ih =>
    intro i hd hi
    have hlt : i < l.length := by omega
    refine Ev.succ ?_
    simp only [impl_allNums.l0]
    refine Ev.pos (by omega) (Ev.pos (by omega) (Ev.pos (by omega) ?_))
    rw [rd_at hlt, drop_at hlt, List.all_cons, up i hlt hn]
    refine Ev.b (isnum_f _) ?_
    cases numB l[i] with
    | false => exact Ev.neg (by simp) (Ev.some rfl)
    | true => exact Ev.pos rfl (ih (i + 1) (by omega) (by omega))
theorem nums_ev (l : List Int) (hn : l.length ≤ 9223372036854775807) : Ev (fun k => impl_allNums.f k l) (l.all numB) := by
  unfold impl_allNums.f
  exact nums_l l hn l.length 0 (by omega) (by omega)
theorem itens_ev (dims l : List Int) (hd : dims.length ≤ 9223372036854775807) (hn : l.length ≤ 9223372036854775807) : Ev (fun k => impl_TensorOk.f k dims l) (tensB dims l) := by
  unfold impl_TensorOk.f tensB
  refine Ev.bind (idims_ev dims hd) ?_
  cases hb : dimsB dims with
  | false => exact Ev.neg (by simp) (Ev.some rfl)
  | true =>
    have hb' := hb
    unfold dimsB at hb'
    simp only [Bool.and_eq_true, decide_eq_true_eq] at hb'
    refine Ev.pos rfl (Ev.bind (product_ev dims hd hb'.2) ?_)
    rw [Bool.true_and]
    refine Ev.ite (fun h => ?_) (fun h => ?_)
    · rw [decide_eq_true h, Bool.true_and]
      exact Ev.bind (nums_ev l hn) (Ev.some rfl)
    · rw [decide_eq_false h]
      exact Ev.some rfl
theorem toTensor_ev (a b : List Int) (ha : a.length ≤ 1048576) (hb : b.length ≤ 1048576) : Ev (fun k => laws_toTensor.f k a b) (a, b) := by
  unfold laws_toTensor.f
  exact Ev.bind (toIntS_ev a (by omega)) (Ev.bind (toIntS_ev b (by omega)) (Ev.some rfl))
theorem eqTensor_ev (a b : List Int) (ha : a.length ≤ 1048576) (hb : b.length ≤ 1048576) : Ev (fun k => laws_eqTensor.f k a b a b) true := by
  unfold laws_eqTensor.f
  exact Ev.bind (eqIntS_ev a (by omega)) (Ev.pos rfl (Ev.bind (eqIntS_ev b (by omega)) (Ev.pos rfl (Ev.some rfl))))
theorem markTensor_ev (a b : List Int) (ha : a.length ≤ 1048576) (hb : b.length ≤ 1048576) : Ev (fun k => laws_markTensor.f k a b 1) (1 + (a.length : Int) + b.length, ups 1 a.length, ups (1 + (a.length : Int)) b.length) := by
  unfold laws_markTensor.f
  exact Ev.bind (mark_ev a 1 (by omega) (by omega)) (Ev.bind (mark_ev b _ (by omega) (by omega)) (Ev.some rfl))
theorem szTensor_f (a b : List Int) (ha : a.length ≤ 9223372036854775807) (hb : b.length ≤ 9223372036854775807) : ∃ q, laws_szTensor.f a b 1048576 = some q ∧ (q < 0 ∨ (0 ≤ q ∧ a.length ≤ 1048576 ∧ b.length ≤ 1048576)) := by
  unfold laws_szTensor.f laws_szIntS.f
  rw [wrap_id (by omega) (by omega)]
  by_cases h : (1048576 : Int) - (a.length : Int) < 0
  · rw [if_pos h, Option.bind_some, if_pos (by omega)]
    exact ⟨_, rfl, .inl (by omega)⟩
  · rw [if_neg h, Option.bind_some, if_neg h, wrap_id (by omega) (by omega)]
    by_cases h2 : (1048576 : Int) - (a.length : Int) - (b.length : Int) < 0
    · rw [if_pos h2, Option.bind_some, if_pos (by omega)]
      exact ⟨_, rfl, .inl (by omega)⟩
    · rw [if_neg h2, Option.bind_some, if_neg h2]
      exact ⟨_, rfl, .inr ⟨by omega, by omega, by omega⟩⟩
theorem held_l (n : Nat) (a : Int) (h0 : 0 ≤ a) (h1 : a + n ≤ 4611686018427387904) : ∀ (d i : Nat), n - i = d → i ≤ n → Ev (fun k => laws_heldIntS.l0 k (ups a n) (a + i) (i : Int)) (a + n) := by
  intro d
  induction d with
  | zero =>
    intro i hd hi
    refine Ev.succ ?_
    simp only [laws_heldIntS.l0]
    exact Ev.neg (by rw [ups_len]; omega) (Ev.some (by rw [show i = n by omega]))
  | succ d ih =>
    intro i hd hi
    refine Ev.succ ?_
    simp only [laws_heldIntS.l0]
    have hu : i < (ups a n).length := by rw [ups_len]; omega
    refine Ev.pos (by omega) (Ev.pos (by omega) ?_)
    rw [rd_at hu, ups_at n a i hu, up i (by omega : i < n) (by omega), wrap_id (by omega) (by omega), show a + (i : Int) + 1 = a + ((i + 1 : Nat) : Int) by omega]
    exact Ev.pos rfl (ih (i + 1) (by omega) (by omega))
theorem held_ev (n : Nat) (a : Int) (h0 : 0 ≤ a) (h1 : a + n ≤ 4611686018427387904) : Ev (fun k => laws_heldIntS.f k (ups a n) a) (a + n) := by
  unfold laws_heldIntS.f
  have := held_l n a h0 h1 n 0 (by omega) (by omega)
  simpa using this
theorem clone_f (l : List Int) (h : l.length < 17592186044416) : slices_Clone_int_int.f l = some l := by
  unfold slices_Clone_int_int.f
  rw [if_pos h]
/-! ### indexes in order, and their places -/
theorem index_l (l : List Int) (hn : l.length ≤ 6) (hd : ∀ d ∈ l, 1 ≤ d) (k0 : Int) (hk : 0 ≤ k0) (hk' : k0 ≤ 9223372036854775807) : ∀ (i : Nat), i ≤ l.length →
    Ev (fun k => spec_l3Index.l0 k l (idxs (l.drop i) k0).2 (List.replicate i 0 ++ (idxs (l.drop i) k0).1) ((i : Int) - 1)) (idxs l k0).1 := by
  intro i
  induction i with
  | zero =>
    intro hi
    refine Ev.succ ?_
    simp only [spec_l3Index.l0]
    refine Ev.neg (by omega) (Ev.some ?_)
    simp
  | succ i ih =>
    intro hi
    have hlt : i < l.length := by omega
    have hdi := hd _ (List.getElem_mem hlt)
    have hnn : 0 ≤ (idxs (l.drop (i + 1)) k0).2 := idxs_nonneg (fun d hm => hd d (List.mem_of_mem_drop hm)) hk
    have hle : (idxs (l.drop (i + 1)) k0).2 ≤ k0 := by
      have o := ord_idxs (ds := l.drop (i + 1)) (fun d hm => hd d (List.mem_of_mem_drop hm)) hk
      obtain ⟨o1, o2⟩ := ord_lt (ds := l.drop (i + 1)) (fun d hm => hd d (List.mem_of_mem_drop hm)) (idxs_in (fun d hm => hd d (List.mem_of_mem_drop hm)) hk)
      have p : (idxs (l.drop (i + 1)) k0).2 * 1 ≤ (idxs (l.drop (i + 1)) k0).2 * prod (l.drop (i + 1)) := Int.mul_le_mul_of_nonneg_left (by omega) hnn
      omega
    have hq : 0 ≤ (idxs (l.drop (i + 1)) k0).2 / l[i] := Int.ediv_nonneg hnn (by omega)
    have hq' : (idxs (l.drop (i + 1)) k0).2 / l[i] ≤ (idxs (l.drop (i + 1)) k0).2 := Int.ediv_le_self _ hnn
    refine Ev.succ ?_
    simp only [spec_l3Index.l0]
    have e1 : ((i + 1 : Nat) : Int) - 1 = (i : Int) := by omega
    rw [e1]
    refine Ev.pos (by omega) (Ev.pos (by omega) (Ev.pos (by omega) ?_))
    rw [rd_at hlt]
    refine Ev.neg (by omega) (Ev.pos (by simp [idxs_len]; omega) ?_)
    rw [wrap_id (by omega : -9223372036854775808 ≤ (i : Int) - 1) (by omega), Int.tdiv_eq_ediv_of_nonneg hnn, Int.tmod_eq_emod_of_nonneg hnn, wrap_id (by omega : -9223372036854775808 ≤ (idxs (l.drop (i + 1)) k0).2 / l[i]) (by omega), Int.toNat_natCast]
    have ih := ih (by omega)
    rw [drop_at hlt] at ih
    simp only [idxs] at ih
    have e2 : (List.replicate (i + 1) (0 : Int) ++ (idxs (l.drop (i + 1)) k0).1).set i ((idxs (l.drop (i + 1)) k0).2 % l[i]) = List.replicate i 0 ++ ((idxs (l.drop (i + 1)) k0).2 % l[i] :: (idxs (l.drop (i + 1)) k0).1) := by
      rw [show List.replicate (i + 1) (0 : Int) = List.replicate i 0 ++ [0] from List.replicate_succ', List.append_assoc, List.set_append_right _ _ (by simp)]
      simp
    rw [e2]
    exact ih
theorem index_ev (l : List Int) (hn : l.length ≤ 6) (hd : ∀ d ∈ l, 1 ≤ d) (k0 : Int) (hk : 0 ≤ k0) (hk' : k0 ≤ 9223372036854775807) : Ev (fun k => spec_l3Index.f k l k0) (idxs l k0).1 := by
  unfold spec_l3Index.f
  refine Ev.pos (by omega) (Ev.pos (by omega) ?_)
  have := index_l l hn hd k0 hk hk' l.length (by omega)
  rw [List.drop_length] at this
  simp only [idxs, List.append_nil] at this
  rw [wrap_id (by omega) (by omega)]
  exact this
/-! ### the reference's lines along an axis -/
theorem inD_at : ∀ {ds xs : List Int}, inD ds xs → ∀ (i : Nat) (h : i < ds.length) (h' : i < xs.length), 0 ≤ xs[i] ∧ xs[i] < ds[i]
  | [], [], _, i, h, _ => by simp at h
  | d :: ds, x :: xs, hi, i, h, h' => by
    cases i with
    | zero => exact ⟨hi.1, hi.2.1⟩
    | succ i =>
      simp only [List.getElem_cons_succ]
      exact inD_at hi.2.2 i (by simpa using h) (by simpa using h')
  | [], _ :: _, h, _, _, _ => h.elim
  | _ :: _, [], h, _, _, _ => h.elim
theorem inD_set : ∀ {ds xs : List Int}, inD ds xs → ∀ (a : Nat) (v : Int) (_ : a < ds.length), 0 ≤ v → v < ds.getD a 0 → inD ds (xs.set a v)
  | [], [], _, a, _, h, _, _ => by simp at h
  | d :: ds, x :: xs, hi, a, v, h, h0, h1 => by
    cases a with
    | zero => exact ⟨h0, by simpa using h1, hi.2.2⟩
    | succ a => exact ⟨hi.1, hi.2.1, inD_set hi.2.2 a v (by simpa using h) h0 (by simpa using h1)⟩
  | [], _ :: _, h, _, _, _, _, _ => h.elim
  | _ :: _, [], h, _, _, _, _, _ => h.elim
theorem order_l (ds xs : List Int) (hn : ds.length ≤ 6) (hl : xs.length = ds.length) (hr : runOk 1 ds = true) (hi : inD ds xs) : ∀ (d i : Nat) (acc : Int), ds.length - i = d → i ≤ ds.length → 0 ≤ acc → (acc + 1) * prod (ds.drop i) ≤ 4096 →
    Ev (fun k => spec_l3Order.l0 k ds xs acc (i : Int)) (acc * prod (ds.drop i) + ord (ds.drop i) (xs.drop i)) := by
  have hall := run_all hr
  intro d
  induction d with
  | zero =>
    intro i acc hd hi' h0 h1
    refine Ev.succ ?_
    simp only [spec_l3Order.l0]
    refine Ev.neg (by omega) (Ev.some ?_)
    rw [List.drop_eq_nil_of_le (by omega), List.drop_eq_nil_of_le (by omega)]
    simp [prod, ord]
  | succ d ih =>
    intro i acc hd hi' h0 h1
    have hlt : i < ds.length := by omega
    have hlt' : i < xs.length := by omega
    have hx := inD_at hi i hlt hlt'
    have hdi := hall _ (List.getElem_mem hlt)
    have hp := prod_le hr (i + 1)
    rw [drop_at hlt] at h1
    simp only [prod] at h1
    have e1 : (acc + 1) * (ds[i] * prod (ds.drop (i + 1))) = (acc * ds[i] + ds[i]) * prod (ds.drop (i + 1)) := by grind
    have e2 : (acc * ds[i] + xs[i] + 1) * prod (ds.drop (i + 1)) ≤ (acc * ds[i] + ds[i]) * prod (ds.drop (i + 1)) := Int.mul_le_mul_of_nonneg_right (by omega) (by omega)
    have m0 : 0 ≤ acc * ds[i] := Int.mul_nonneg h0 (by omega)
    have m1 : (acc * ds[i] + ds[i]) * 1 ≤ (acc * ds[i] + ds[i]) * prod (ds.drop (i + 1)) := Int.mul_le_mul_of_nonneg_left hp.1 (by omega)
    have ih := ih (i + 1) (acc * ds[i] + xs[i]) (by omega) (by omega) (by omega) (by omega)
    refine Ev.succ ?_
    simp only [spec_l3Order.l0]
    refine Ev.pos (by omega) (Ev.pos (by omega) (Ev.pos (by omega) ?_))
    rw [rd_at hlt, rd_at hlt', up i hlt (by omega), wrap_id (by omega : -9223372036854775808 ≤ acc * ds[i]) (by omega), wrap_id (by omega : -9223372036854775808 ≤ acc * ds[i] + xs[i]) (by omega), drop_at hlt, drop_at hlt']
    simp only [prod, ord]
    rw [show acc * (ds[i] * prod (ds.drop (i + 1))) + (xs[i] * prod (ds.drop (i + 1)) + ord (ds.drop (i + 1)) (xs.drop (i + 1))) = (acc * ds[i] + xs[i]) * prod (ds.drop (i + 1)) + ord (ds.drop (i + 1)) (xs.drop (i + 1)) by grind]
    exact ih
theorem order_ev (ds xs : List Int) (hn : ds.length ≤ 6) (hl : xs.length = ds.length) (hr : runOk 1 ds = true) (hi : inD ds xs) : Ev (fun k => spec_l3Order.f k ds xs) (ord ds xs) := by
  have hp := prod_le hr 0
  have := order_l ds xs hn hl hr hi ds.length 0 0 (by omega) (by omega) (by omega) (by omega)
  unfold spec_l3Order.f
  simpa using this
theorem l3Ints_f (l : List Int) (h : l.length < 17592186044416) : spec_l3Ints.f l = some l := by
  unfold spec_l3Ints.f
  rw [Option.bind_some, if_pos (by simpa using h)]
  rfl
theorem with_f (l : List Int) (a : Nat) (v : Int) (h : a < l.length) (hl : l.length < 17592186044416) : spec_l4With.f l (a : Int) v = some (l.set a v) := by
  unfold spec_l4With.f
  rw [l3Ints_f l hl, Option.bind_some, if_pos (by omega), if_pos (by omega), Int.toNat_natCast]
theorem ord_lt' {ds xs : List Int} (hr : runOk 1 ds = true) (hi : inD ds xs) : 0 ≤ ord ds xs ∧ ord ds xs < prod ds := ord_lt (fun d hd => (run_all hr d hd).1) hi
theorem get_ev (ds data xs : List Int) (hn : ds.length ≤ 6) (hl : xs.length = ds.length) (hr : runOk 1 ds = true) (hi : inD ds xs) (hd : (data.length : Int) = prod ds) : Ev (fun k => spec_l4Get.f k ds data xs) (rd data (ord ds xs)) := by
  have h := ord_lt' hr hi
  unfold spec_l4Get.f
  exact Ev.bind (order_ev ds xs hn hl hr hi) (Ev.pos h.1 (Ev.pos (by omega) (Ev.some rfl)))
/-! ### a place told by what stands before, along and behind -/
theorem cell_of (n B i k j : Nat) (hk : k < n) (hj : j < B) : ((i * n + k) * B + j) / B / n = i ∧ ((i * n + k) * B + j) / B % n = k ∧ ((i * n + k) * B + j) % B = j := by
  have h1 : ((i * n + k) * B + j) / B = i * n + k := by
    rw [Nat.mul_comm, Nat.mul_add_div (by omega), Nat.div_eq_of_lt hj, Nat.add_zero]
  have h2 : ((i * n + k) * B + j) % B = j := by
    rw [Nat.mul_comm, Nat.mul_add_mod, Nat.mod_eq_of_lt hj]
  have h3 : (i * n + k) / n = i := by
    rw [Nat.mul_comm, Nat.mul_add_div (by omega), Nat.div_eq_of_lt hk, Nat.add_zero]
  have h4 : (i * n + k) % n = k := by
    rw [Nat.mul_comm, Nat.mul_add_mod, Nat.mod_eq_of_lt hk]
  exact ⟨by rw [h1, h3], by rw [h1, h4], h2⟩
theorem cell_eq (n B q : Nat) : q = (q / B / n * n + q / B % n) * B + q % B := by
  have h1 : q / B / n * n + q / B % n = q / B := by
    have := Nat.div_add_mod (q / B) n
    rw [Nat.mul_comm] at this
    exact this
  rw [h1]
  have := Nat.div_add_mod q B
  rw [Nat.mul_comm] at this
  exact this.symm
theorem set_map (N : Nat) (f : Nat → Int) (p : Nat) (v : Int) : ((List.range N).map f).set p v = (List.range N).map (fun q => if q = p then v else f q) := by
  apply List.ext_getElem (by simp)
  intro q h1 h2
  rw [List.getElem_set, List.getElem_map, List.getElem_map, List.getElem_range]
  by_cases e : q = p
  · rw [if_pos e.symm, if_pos e]
  · rw [if_neg (fun h => e h.symm), if_neg e]
theorem cell_lt {A n B i k j : Nat} (hi : i < A) (hk : k < n) (hj : j < B) : (i * n + k) * B + j < A * n * B ∧ i * n + k < A * n := by
  have h1 : (i + 1) * n ≤ A * n := Nat.mul_le_mul_right n hi
  rw [Nat.add_mul, Nat.one_mul] at h1
  have h2 : (i * n + k + 1) * B ≤ A * n * B := Nat.mul_le_mul_right B (by omega)
  rw [Nat.add_mul, Nat.one_mul] at h2
  omega
theorem take_next {β : Type} {l : List β} {i : Nat} (h : i < l.length) : l.take i ++ [l[i]] = l.take (i + 1) := (List.take_succ_eq_append_getElem h).symm
/-! ### numbers as signed ones, by both -/
theorem signed_f (x : Int) : ∃ v, spec_Signed.f x = some v ∧ impl_Signed.f x = some v := by
  unfold spec_Signed.f impl_Signed.f spec_Mod.f impl_Mod.f
  split <;> simp only [Option.bind_some] <;> split <;> exact ⟨_, rfl, rfl⟩
def sg (x : Int) : Int := (spec_Signed.f x).getD 0
theorem sg_s (x : Int) : spec_Signed.f x = some (sg x) := by
  obtain ⟨v, h, _⟩ := signed_f x
  unfold sg
  rw [h]
  rfl
theorem sg_i (x : Int) : impl_Signed.f x = some (sg x) := by
  obtain ⟨v, h, h2⟩ := signed_f x
  unfold sg
  rw [h, h2]
  rfl
/-! ### shapes with two lengths behind -/
theorem ord_app : ∀ (p xs : List Int) (h w u v : Int), xs.length = p.length → ord (p ++ [h, w]) (xs ++ [u, v]) = (ord p xs * h + u) * w + v
  | [], [], h, w, u, v, _ => by simp [ord, prod]
  | d :: p, x :: xs, h, w, u, v, hl => by
    have ih := ord_app p xs h w u v (by simpa using hl)
    have pr : ∀ q : List Int, prod (q ++ [h, w]) = prod q * h * w := by
      intro q
      induction q with
      | nil => simp [prod]
      | cons e q iq => simp only [List.cons_append, prod, iq]; grind
    simp only [List.cons_append, ord]
    rw [ih, pr]
    grind
theorem prod_app (p : List Int) (h w : Int) : prod (p ++ [h, w]) = prod p * h * w := by
  induction p with
  | nil => simp [prod]
  | cons e q iq => simp only [List.cons_append, prod, iq]; grind
theorem idxs_app : ∀ (p : List Int) (h w k : Int), idxs (p ++ [h, w]) k = ((idxs p (k / w / h)).1 ++ [k / w % h, k % w], (idxs p (k / w / h)).2)
  | [], h, w, k => by simp [idxs]
  | d :: p, h, w, k => by
    simp only [List.cons_append, idxs, idxs_app p h w k]
theorem inD_app : ∀ {p xs : List Int} {h w u v : Int}, inD p xs → 0 ≤ u → u < h → 0 ≤ v → v < w → inD (p ++ [h, w]) (xs ++ [u, v])
  | [], [], _, _, _, _, _, a, b, c, d => ⟨a, b, c, d, trivial⟩
  | e :: p, x :: xs, _, _, _, _, hi, a, b, c, d => ⟨hi.1, hi.2.1, inD_app hi.2.2 a b c d⟩
  | [], _ :: _, _, _, _, _, hi, _, _, _, _ => hi.elim
  | _ :: _, [], _, _, _, _, hi, _, _, _, _ => hi.elim
theorem run_app {h w g v : Int} (hg : 1 ≤ g) (hv : 1 ≤ v) (hgh : g ≤ h) (hvw : v ≤ w) : ∀ {p : List Int} {n : Int}, 1 ≤ n → runOk n (p ++ [h, w]) = true → runOk n (p ++ [g, v]) = true
  | [], n, hn, hr => by
    obtain ⟨a1, a2, a3, a4⟩ := runOk_cons hr
    obtain ⟨b1, b2, b3, _⟩ := runOk_cons a4
    have m1 : n * g ≤ n * h := Int.mul_le_mul_of_nonneg_left hgh (by omega)
    have m0 : 0 ≤ n * h := Int.mul_nonneg (by omega) (by omega)
    have m2 : n * g * v ≤ n * h * w := Int.mul_le_mul m1 hvw (by omega) m0
    show runOk n [g, v] = true
    simp only [runOk]
    rw [if_neg (by omega), if_neg (by omega), if_neg (by omega), if_neg (by omega), if_neg (by omega), if_neg (by omega)]
  | d :: p, n, hn, hr => by
    obtain ⟨a1, a2, a3, a4⟩ := runOk_cons hr
    have m : 1 * 1 ≤ n * d := Int.mul_le_mul hn a1 (by omega) (by omega)
    simp only [List.cons_append, runOk]
    rw [if_neg (by omega), if_neg (by omega), if_neg (by omega)]
    exact run_app hg hv hgh hvw (by omega) a4
theorem run_pre {h w : Int} : ∀ {p : List Int} {n : Int}, runOk n (p ++ [h, w]) = true → runOk n p = true
  | [], _, _ => rfl
  | d :: p, n, hr => by
    obtain ⟨a1, a2, a3, a4⟩ := runOk_cons hr
    simp only [runOk]
    rw [if_neg (by omega), if_neg (by omega), if_neg (by omega)]
    exact run_pre a4
theorem set_app2 (xs : List Int) (u v a b : Int) (n : Nat) (hl : xs.length = n) : ((xs ++ [u, v]).set n a).set (n + 1) b = xs ++ [a, b] := by
  subst hl
  rw [List.set_append_right _ _ (Nat.le_refl _), Nat.sub_self, List.set_cons_zero, List.set_append_right _ _ (by omega), Nat.add_sub_cancel_left]
  rfl
theorem two_behind (ds : List Int) (h : 2 ≤ ds.length) : ∃ p a b, ds = p ++ [a, b] := by
  refine ⟨ds.take (ds.length - 2), ds[ds.length - 2]'(by omega), ds[ds.length - 1]'(by omega), ?_⟩
  have e1 := List.take_append_drop (ds.length - 2) ds
  rw [drop_at (by omega), show ds.length - 2 + 1 = ds.length - 1 by omega, drop_at (by omega), show ds.length - 1 + 1 = ds.length by omega, List.drop_length] at e1
  exact e1.symm
/-! ### what a window comes to -/
def accJ (J : Int → Int → Int) (v : Nat → Nat → Int) (s : Nat) : Nat → Int
  | 0 => v 0 0
  | t + 1 => if t = 0 then v 0 0 else J (accJ J v s t) (v (t / s) (t % s))
theorem accJ_num {J : Int → Int → Int} {v : Nat → Nat → Int} (hJ : ∀ x y, numB x = true → numB y = true → numB (J x y) = true) (hv : ∀ a b, numB (v a b) = true) (s : Nat) : ∀ t, numB (accJ J v s t) = true
  | 0 => hv 0 0
  | t + 1 => by
    simp only [accJ]
    split
    · exact hv 0 0
    · exact hJ _ _ (accJ_num hJ hv s t) (hv _ _)
theorem dm {s a b : Nat} (hb : b < s) : (a * s + b) / s = a ∧ (a * s + b) % s = b := by
  constructor
  · rw [Nat.mul_comm, Nat.mul_add_div (by omega), Nat.div_eq_of_lt hb, Nat.add_zero]
  · rw [Nat.mul_comm, Nat.mul_add_mod, Nat.mod_eq_of_lt hb]
/-- A place in a window. -/
def winP (h w st ow oh q a b : Nat) : Nat := (q / ow / oh * h + (q / ow % oh * st + a)) * w + (q % ow * st + b)
def winV (data : List Int) (h w st ow oh q a b : Nat) : Int := rd data (winP h w st ow oh q a b : Int)
def pooled (J : Int → Int → Int) (data : List Int) (N h w s st ow oh : Nat) : List Int := (List.range N).map fun q => accJ J (winV data h w st ow oh q) s (s * s)
def outN (n s st : Nat) : Nat := (n - s) / st + 1
theorem outN_le {n s st i : Nat} (hi : i < outN n s st) (hs : s ≤ n) : i * st + s ≤ n := by
  unfold outN at hi
  have h1 : i * st ≤ (n - s) / st * st := Nat.mul_le_mul_right st (by omega)
  have h2 := Nat.div_mul_le_self (n - s) st
  omega
theorem win_lt {P h w s st ow oh n i j a b : Nat} (hn : n < P) (hi : i < oh) (hj : j < ow) (eh : oh = outN h s st) (ew : ow = outN w s st) (hsh : s ≤ h) (hsw : s ≤ w) (ha : a < s) (hb : b < s) : (n * h + (i * st + a)) * w + (j * st + b) < P * h * w := by
  subst eh
  subst ew
  have h1 := outN_le hi hsh
  have h2 := outN_le hj hsw
  have := cell_lt (A := P) (n := h) (B := w) (i := n) (k := i * st + a) (j := j * st + b) hn (by omega) (by omega)
  exact this.1
theorem lo_w {x y : Int} (h0 : 0 ≤ x * y) (h : x * y ≤ 16777216) : wrap64 (x * y) = x * y := wrap_id (by omega) (by omega)
/-! ### the pools -/
theorem wl_f (l : List Int) (a : Nat) (v : Int) (h : a < l.length) (hl : l.length < 17592186044416) : spec_l4With.f l (a : Int) v = some (l.set a v) := with_f l a v h hl
def outI (n s st : Int) : Int := if s < 1 ∨ st < 1 ∨ s > n then 0 else (n - s) / st + 1
theorem out_ev (n s st : Int) (hn : 1 ≤ n) (hn4 : n ≤ 4096) : Ev (fun k => spec_l5Out.f k n s st) (outI n s st) := by
  unfold spec_l5Out.f outI
  have j : Ev (fun k => spec_l5Out.j0 k n s st true) 0 := by
    refine Ev.succ ?_
    simp only [spec_l5Out.j0]
    exact Ev.pos (by trivial) (Ev.some rfl)
  by_cases h1 : s < 1
  · rw [if_pos (.inl h1)]
    exact Ev.pos h1 j
  by_cases h2 : st < 1
  · rw [if_pos (.inr (.inl h2))]
    exact Ev.neg h1 (Ev.pos h2 j)
  by_cases h3 : s > n
  · rw [if_pos (.inr (.inr h3))]
    refine Ev.neg h1 (Ev.neg h2 ?_)
    rw [decide_eq_true h3]
    exact j
  · rw [if_neg (by omega)]
    refine Ev.neg h1 (Ev.neg h2 ?_)
    rw [decide_eq_false h3]
    refine Ev.succ ?_
    simp only [spec_l5Out.j0]
    have q0 : 0 ≤ (n - s) / st := Int.ediv_nonneg (by omega) (by omega)
    have q1 : (n - s) / st ≤ n - s := Int.ediv_le_self _ (by omega)
    refine Ev.neg (by simp) (Ev.neg (by omega) (Ev.some ?_))
    rw [wrap_id (by omega : -9223372036854775808 ≤ n - s) (by omega), Int.tdiv_eq_ediv_of_nonneg (by omega), wrap_id (by omega : -9223372036854775808 ≤ (n - s) / st) (by omega), wrap_id (by omega) (by omega)]
theorem numB_iff {x : Int} : numB x = true ↔ 0 ≤ x ∧ x < 2147483647 := by
  unfold numB
  rw [Bool.and_eq_true, decide_eq_true_eq, decide_eq_true_eq]
theorem all_at {l : List Int} (h : l.all numB = true) (i : Nat) : numB (rd l (i : Int)) = true := by
  by_cases hi : i < l.length
  · rw [rd_at hi]
    exact List.all_eq_true.1 h _ (List.getElem_mem hi)
  · unfold rd
    rw [List.getD_eq_getElem?_getD, Int.toNat_natCast, List.getElem?_eq_none (by omega)]
    rfl
def J (x y : Int) : Int := if sg x < sg y then y else x
theorem J_num (x y : Int) (hx : numB x = true) (hy : numB y = true) : numB (J x y) = true := by
  unfold J
  split
  · exact hy
  · exact hx
theorem join_f {x y : Int} (hx : numB x = true) (hy : numB y = true) : impl_twoOf_1.f x y = some (J x y) := by
  unfold impl_twoOf_1.f J
  rw [sg_i, Option.bind_some, sg_i, Option.bind_some]
  split <;> rfl
theorem wz {z : Nat} (h : z ≤ 16777216) : wrap64 (z : Int) = z := wrap_id (by omega) (by omega)
theorem idx_w {at_ a w b : Nat} (h1 : a * w ≤ 16777216) (h2 : at_ + a * w + b ≤ 16777216) : wrap64 (wrap64 ((at_ : Int) + wrap64 ((a : Int) * (w : Int))) + (b : Int)) = ((at_ + a * w + b : Nat) : Int) := by
  have t1 : (a : Int) * (w : Int) = ((a * w : Nat) : Int) := by push_cast; rfl
  rw [t1, wz h1]
  generalize a * w = z at *
  rw [show (at_ : Int) + ((z : Nat) : Int) = ((at_ + z : Nat) : Int) by push_cast; rfl, wz (by omega), show ((at_ + z : Nat) : Int) + (b : Int) = ((at_ + z + b : Nat) : Int) by push_cast; rfl, wz h2]
theorem at_w {n h w i st j N : Nat} (hN : N ≤ 16777216) (hw : 1 ≤ w) (h0 : (n * h + i * st) * w + j * st ≤ N) : wrap64 (wrap64 (wrap64 (wrap64 ((n : Int) * (h : Int)) * (w : Int)) + wrap64 (wrap64 ((i : Int) * (st : Int)) * (w : Int))) + wrap64 ((j : Int) * (st : Int))) = (((n * h + i * st) * w + j * st : Nat) : Int) := by
  have t1 : (n : Int) * (h : Int) = ((n * h : Nat) : Int) := by push_cast; rfl
  have t3 : (i : Int) * (st : Int) = ((i * st : Nat) : Int) := by push_cast; rfl
  have t5 : (j : Int) * (st : Int) = ((j * st : Nat) : Int) := by push_cast; rfl
  rw [t1, t3, t5]
  generalize n * h = x at *
  generalize i * st = y at *
  generalize j * st = z at *
  rw [Nat.add_mul] at h0 ⊢
  have m1 : x * 1 ≤ x * w := Nat.mul_le_mul_left _ hw
  have m2 : y * 1 ≤ y * w := Nat.mul_le_mul_left _ hw
  have t2 : (x : Int) * (w : Int) = ((x * w : Nat) : Int) := by push_cast; rfl
  have t4 : (y : Int) * (w : Int) = ((y * w : Nat) : Int) := by push_cast; rfl
  rw [wz (z := x) (by omega), wz (z := y) (by omega), t2, t4]
  generalize x * w = u at *
  generalize y * w = v at *
  rw [wz (z := u) (by omega), wz (z := v) (by omega), wz (z := z) (by omega), show (u : Int) + (v : Int) = ((u + v : Nat) : Int) by push_cast; rfl, wz (by omega), show ((u + v : Nat) : Int) + (z : Int) = ((u + v + z : Nat) : Int) by push_cast; rfl, wz (by omega)]
theorem acc_step {J : Int → Int → Int} {v : Nat → Nat → Int} {s a b : Nat} (hb : b < s) (h0 : ¬ a + b = 0) (acc : Int) (hacc : acc = accJ J v s (a * s + b)) : J acc (v a b) = accJ J v s (a * s + (b + 1)) := by
  obtain ⟨d1, d2⟩ := dm (s := s) (a := a) hb
  have hpos : ¬ a * s + b = 0 := by
    intro hz
    apply h0
    have : a * s = 0 := by omega
    rcases Nat.mul_eq_zero.1 this with e | e <;> omega
  rw [← Nat.add_assoc]
  simp only [accJ]
  rw [if_neg hpos, d1, d2, ← hacc]
theorem acc_first {J : Int → Int → Int} {v : Nat → Nat → Int} {s a b : Nat} (h0 : a + b = 0) : accJ J v s (a * s + b) = accJ J v s (a * s + (b + 1)) := by
  have e1 : a = 0 := by omega
  have e2 : b = 0 := by omega
  subst e1
  subst e2
  simp [accJ]
theorem win_eq (h w st ow oh q a b : Nat) : winP h w st ow oh q a b = winP h w st ow oh q 0 0 + a * w + b := by
  unfold winP
  generalize q / ow / oh * h = x
  generalize q / ow % oh * st = y
  generalize q % ow * st = z
  simp only [Nat.add_zero]
  rw [Nat.add_mul, Nat.add_mul, Nat.add_mul]
  omega
theorem l4_step (ds data dsr od : List Int) (s st h w oh ow n i at_ a b pp : Nat) (acc nxt : Int) (r : List Int × List Int) (h1 h2 h3 h4 h5 h6 : Int) (hb : b < s) (hs4 : s ≤ 4096) (ha : a < s) (w2 : Aside0 (wrap64 (wrap64 ((at_ : Int) + wrap64 ((a : Int) * (w : Int))) + (b : Int)) = (pp : Int))) (hin : pp < data.length)
    (hz : Aside0 (a + b = 0 → nxt = acc)) (hj : Aside0 (¬ a + b = 0 → impl_twoOf_1.f acc (rd data (pp : Int)) = some nxt))
    (ih : Ev (fun K => impl_pool.l4 K (s : Int) (st : Int) (h : Int) (w : Int) (oh : Int) (ow : Int) (n : Int) (i : Int) (at_ : Int) nxt (a : Int) h1 h2 h3 h4 h5 h6 (s : Int) (a : Int) (s : Int) ((b + 1 : Nat) : Int) ds data dsr od) r) :
    Ev (fun K => impl_pool.l4 K (s : Int) (st : Int) (h : Int) (w : Int) (oh : Int) (ow : Int) (n : Int) (i : Int) (at_ : Int) acc (a : Int) h1 h2 h3 h4 h5 h6 (s : Int) (a : Int) (s : Int) (b : Int) ds data dsr od) r := by
  have wab : wrap64 ((a : Int) + (b : Int)) = ((a + b : Nat) : Int) := by
    rw [show (a : Int) + (b : Int) = ((a + b : Nat) : Int) by push_cast; rfl]
    exact wz (by omega)
  refine Ev.succ ?_
  simp only [impl_pool.l4]
  rw [wab, up b hb (by omega), w2.out]
  clear wab w2
  refine Ev.pos (by omega) ?_
  by_cases h0 : a + b = 0
  · refine Ev.neg (by omega) ?_
    rw [← hz.out h0]
    exact ih
  · exact Ev.pos (by omega) (Ev.pos (by omega) (Ev.pos (by omega) (Ev.b (hj.out h0) ih)))
theorem l2_step (ds data dsr od : List Int) (s st h w oh ow n i j pp : Nat) (r : List Int × List Int) (h1 h2 h3 h4 h5 : Int) (hj : j < ow) (wv : Aside0 (wrap64 (wrap64 (wrap64 (wrap64 ((n : Int) * (h : Int)) * (w : Int)) + wrap64 (wrap64 ((i : Int) * (st : Int)) * (w : Int))) + wrap64 ((j : Int) * (st : Int))) = (pp : Int))) (hin : pp < data.length)
    (ih : Ev (fun K => impl_pool.l3 K (s : Int) (st : Int) (h : Int) (w : Int) (oh : Int) (ow : Int) (n : Int) (i : Int) (pp : Int) (rd data (pp : Int)) h1 h2 h3 h4 (ow : Int) (j : Int) (s : Int) 0 ds data dsr od) r) :
    Ev (fun K => impl_pool.l2 K (s : Int) (st : Int) (h : Int) (w : Int) (oh : Int) (ow : Int) (n : Int) (i : Int) h1 h2 h3 h4 (ow : Int) (j : Int) ds data dsr od) r := by
  refine Ev.succ ?_
  simp only [impl_pool.l2]
  rw [wv.out]
  clear wv
  exact Ev.pos (by omega) (Ev.pos (by omega) (Ev.pos (by omega) ih))
section
set_option linter.unusedSectionVars false
variable (data : List Int) (P h w s st ow oh : Nat) (eh : oh = outN h s st) (ew : ow = outN w s st) (hs1 : 1 ≤ s) (hsh : s ≤ h) (hsw : s ≤ w) (hd : data.length = P * h * w) (hN : P * h * w ≤ 4096) (hP : P ≤ 4096) (hh : h ≤ 4096) (hw : w ≤ 4096) (hst : 1 ≤ st) (hnum : data.all numB = true)
include eh ew hs1 hsh hsw hd hN hP hh hw hst hnum
theorem in_win (q a b : Nat) (hq : q < P * oh * ow) (ha : a < s) (hb : b < s) : winP h w st ow oh q a b < data.length := by
  have hoh : 0 < oh := by rw [eh]; exact Nat.succ_pos _
  have how : 0 < ow := by rw [ew]; exact Nat.succ_pos _
  have hBq : q % ow < ow := Nat.mod_lt _ how
  have hLq : q / ow % oh < oh := Nat.mod_lt _ hoh
  have hAq : q / ow / oh < P := by
    rw [Nat.div_lt_iff_lt_mul hoh, Nat.div_lt_iff_lt_mul how]
    exact hq
  rw [hd]
  exact win_lt hAq hLq hBq eh ew hsh hsw ha hb
theorem at_num (q a b : Nat) : numB (winV data h w st ow oh q a b) = true := all_at hnum _
/-- The program's window. -/
theorem win_l4 (ds dsr od : List Int) (n i j q a at_ : Nat) (hq : q < P * oh * ow) (eq : at_ = winP h w st ow oh q 0 0) (ha : a < s) (r : List Int × List Int) (h1 h2 h3 h4 h5 h6 : Int)
    (hk : ∀ acc, acc = accJ J (winV data h w st ow oh q) s ((a + 1) * s) → Ev (fun K => impl_pool.l3 K (s : Int) (st : Int) (h : Int) (w : Int) (oh : Int) (ow : Int) (n : Int) (i : Int) (at_ : Int) acc h1 h2 h3 h4 h5 h6 (s : Int) ((a + 1 : Nat) : Int) ds data dsr od) r) :
    ∀ (d b : Nat) (acc : Int), s - b = d → b ≤ s → acc = accJ J (winV data h w st ow oh q) s (a * s + b) → Ev (fun K => impl_pool.l4 K (s : Int) (st : Int) (h : Int) (w : Int) (oh : Int) (ow : Int) (n : Int) (i : Int) (at_ : Int) acc (a : Int) h1 h2 h3 h4 h5 h6 (s : Int) (a : Int) (s : Int) (b : Int) ds data dsr od) r := by
  intro d
  induction d with
  | zero =>
    intro b acc hd' hb hacc
    refine Ev.succ ?_
    simp only [impl_pool.l4]
    rw [up a ha (by omega)]
    refine Ev.neg (by omega) (hk acc ?_)
    rw [hacc, show b = s by omega, Nat.add_mul, Nat.one_mul]
  | succ d ih =>
    intro b acc hd' hb hacc
    have hb' : b < s := by omega
    have hin := in_win data P h w s st ow oh eh ew hs1 hsh hsw hd hN hP hh hw hst hnum q a b hq ha hb'
    have hs4 : s ≤ 4096 := Nat.le_trans hsh hh
    have haw : a * w ≤ 4096 * 4096 := Nat.mul_le_mul (Nat.le_trans (Nat.le_of_lt ha) hs4) hw
    have hwe := win_eq h w st ow oh q a b
    rw [← eq] at hwe
    refine l4_step ds data dsr od s st h w oh ow n i at_ a b (winP h w st ow oh q a b) acc (accJ J (winV data h w st ow oh q) s (a * s + (b + 1))) r h1 h2 h3 h4 h5 h6 hb' hs4 ha ⟨?_⟩ hin ⟨fun h0 => ?_⟩ ⟨fun h0 => ?_⟩ (ih (b + 1) _ (by rw [← Nat.sub_sub, hd']; rfl) hb' rfl)
    · rw [hwe]
      exact idx_w haw (by rw [← hwe]; exact Nat.le_trans (Nat.le_of_lt hin) (by rw [hd]; exact Nat.le_trans hN (by decide)))
    · rw [hacc]
      exact (acc_first h0).symm
    · rw [← acc_step hb' h0 acc hacc]
      exact join_f (by rw [hacc]; exact accJ_num J_num (fun _ _ => all_at hnum _) s _) (all_at hnum _)
theorem win_l3 (ds dsr od : List Int) (n i j q at_ : Nat) (hq : q < P * oh * ow) (eq : at_ = winP h w st ow oh q 0 0) (r : List Int × List Int) (h1 h2 h3 h4 h5 : Int) (hol : od.length < 4096) (hjo : j < ow)
    (hk : Ev (fun K => impl_pool.l2 K (s : Int) (st : Int) (h : Int) (w : Int) (oh : Int) (ow : Int) (n : Int) (i : Int) h1 h2 h3 h4 h5 ((j + 1 : Nat) : Int) ds data dsr (od ++ [accJ J (winV data h w st ow oh q) s (s * s)])) r) :
    ∀ (d a : Nat) (acc : Int), s - a = d → a ≤ s → acc = accJ J (winV data h w st ow oh q) s (a * s) → Ev (fun K => impl_pool.l3 K (s : Int) (st : Int) (h : Int) (w : Int) (oh : Int) (ow : Int) (n : Int) (i : Int) (at_ : Int) acc h1 h2 h3 h4 h5 (j : Int) (s : Int) (a : Int) ds data dsr od) r := by
  have how : ow ≤ 4096 := by rw [ew]; exact Nat.le_trans (Nat.succ_le_succ (Nat.div_le_self (w - s) st)) (by omega)
  intro d
  induction d with
  | zero =>
    intro a acc hd' ha hacc
    refine Ev.succ ?_
    simp only [impl_pool.l3]
    refine Ev.neg (by omega) (Ev.pos (by omega) ?_)
    rw [up j hjo (by omega)]
    have ea : a = s := by omega
    rw [hacc, ea]
    exact hk
  | succ d ih =>
    intro a acc hd' ha hacc
    refine Ev.succ ?_
    simp only [impl_pool.l3]
    refine Ev.pos (by omega) ?_
    exact win_l4 data P h w s st ow oh eh ew hs1 hsh hsw hd hN hP hh hw hst hnum ds dsr od n i j q a at_ hq eq (by omega) r h1 h2 h3 h4 h5 (j : Int) (fun acc' he => ih (a + 1) acc' (by omega) (by omega) he) s 0 acc (by omega) (by omega) (by simpa using hacc)
theorem pool_l2 (ds dsr : List Int) (n i : Nat) (hn : n < P) (hi : i < oh) (r : List Int × List Int) (h1 h2 h3 h4 : Int) (hM : P * oh * ow ≤ 4096)
    (hk : Ev (fun K => impl_pool.l1 K (s : Int) (st : Int) (h : Int) (w : Int) (oh : Int) (ow : Int) (n : Int) h1 h2 h3 ((i + 1 : Nat) : Int) ds data dsr ((pooled J data (P * oh * ow) h w s st ow oh).take ((n * oh + (i + 1)) * ow))) r) :
    ∀ (d j : Nat), ow - j = d → j ≤ ow → Ev (fun K => impl_pool.l2 K (s : Int) (st : Int) (h : Int) (w : Int) (oh : Int) (ow : Int) (n : Int) (i : Int) h1 h2 h3 (i : Int) (ow : Int) (j : Int) ds data dsr ((pooled J data (P * oh * ow) h w s st ow oh).take ((n * oh + i) * ow + j))) r := by
  have how : ow ≤ 4096 := by rw [ew]; exact Nat.le_trans (Nat.succ_le_succ (Nat.div_le_self (w - s) st)) (by omega)
  have hohl : oh ≤ 4096 := by rw [eh]; exact Nat.le_trans (Nat.succ_le_succ (Nat.div_le_self (h - s) st)) (by omega)
  have hpl : (pooled J data (P * oh * ow) h w s st ow oh).length = P * oh * ow := by simp [pooled]
  intro d
  induction d with
  | zero =>
    intro j hd' hj
    refine Ev.succ ?_
    simp only [impl_pool.l2]
    rw [up i hi (by omega), show (n * oh + i) * ow + j = (n * oh + (i + 1)) * ow by rw [show j = ow by omega, ← Nat.add_assoc, Nat.add_mul (n * oh + i) 1 ow, Nat.one_mul]]
    exact Ev.neg (by omega) hk
  | succ d ih =>
    intro j hd' hj
    have hj' : j < ow := by omega
    have hq := cell_lt hn hi hj'
    obtain ⟨c1, c2, c3⟩ := cell_of oh ow n i j hi hj'
    have e0 : winP h w st ow oh ((n * oh + i) * ow + j) 0 0 = (n * h + i * st) * w + j * st := by
      unfold winP
      rw [c1, c2, c3]
      rfl
    have hin := in_win data P h w s st ow oh eh ew hs1 hsh hsw hd hN hP hh hw hst hnum ((n * oh + i) * ow + j) 0 0 hq.1 (by omega) (by omega)
    rw [e0] at hin
    have wv := at_w (n := n) (h := h) (w := w) (i := i) (st := st) (j := j) (N := 4096) (by decide) (Nat.le_trans hs1 hsw) (Nat.le_trans (Nat.le_of_lt hin) (by rw [hd]; exact hN))
    have hlt : (n * oh + i) * ow + j < (pooled J data (P * oh * ow) h w s st ow oh).length := by rw [hpl]; exact hq.1
    have e := take_next hlt
    have e2 : (pooled J data (P * oh * ow) h w s st ow oh)[(n * oh + i) * ow + j] = accJ J (winV data h w st ow oh ((n * oh + i) * ow + j)) s (s * s) := by simp [pooled]
    rw [e2] at e
    have ih := ih (j + 1) (by rw [← Nat.sub_sub, hd']; rfl) hj'
    have hol : ((pooled J data (P * oh * ow) h w s st ow oh).take ((n * oh + i) * ow + j)).length < 4096 := by
      rw [List.length_take]
      exact Nat.lt_of_le_of_lt (Nat.min_le_left _ _) (Nat.lt_of_lt_of_le hq.1 hM)
    refine l2_step ds data dsr _ s st h w oh ow n i j ((n * h + i * st) * w + j * st) r h1 h2 h3 (i : Int) 0 hj' ⟨wv⟩ hin ?_
    have ac : rd data (((n * h + i * st) * w + j * st : Nat) : Int) = accJ J (winV data h w st ow oh ((n * oh + i) * ow + j)) s (0 * s) := by
      rw [Nat.zero_mul]
      simp only [accJ]
      unfold winV
      rw [e0]
    rw [← Nat.add_assoc, ← e] at ih
    exact win_l3 data P h w s st ow oh eh ew hs1 hsh hsw hd hN hP hh hw hst hnum ds dsr _ n i j ((n * oh + i) * ow + j) ((n * h + i * st) * w + j * st) hq.1 e0.symm r h1 h2 h3 (i : Int) (ow : Int) hol hj' ih s 0 _ rfl (Nat.zero_le _) ac
theorem pool_l1 (ds dsr : List Int) (n : Nat) (hn : n < P) (r : List Int × List Int) (h1 : Int) (hM : P * oh * ow ≤ 4096)
    (hk : Ev (fun K => impl_pool.l0 K (s : Int) (st : Int) (h : Int) (w : Int) (oh : Int) (ow : Int) h1 ((n + 1 : Nat) : Int) ds data dsr ((pooled J data (P * oh * ow) h w s st ow oh).take ((n + 1) * oh * ow))) r) :
    ∀ (d i : Nat), oh - i = d → i ≤ oh → Ev (fun K => impl_pool.l1 K (s : Int) (st : Int) (h : Int) (w : Int) (oh : Int) (ow : Int) (n : Int) h1 (n : Int) (oh : Int) (i : Int) ds data dsr ((pooled J data (P * oh * ow) h w s st ow oh).take ((n * oh + i) * ow))) r := by
  have hohl : oh ≤ 4096 := by rw [eh]; exact Nat.le_trans (Nat.succ_le_succ (Nat.div_le_self (h - s) st)) (by omega)
  intro d
  induction d with
  | zero =>
    intro i hd' hi
    refine Ev.succ ?_
    simp only [impl_pool.l1]
    rw [up n hn (by omega), show n * oh + i = (n + 1) * oh by rw [show i = oh by omega, Nat.add_mul, Nat.one_mul]]
    exact Ev.neg (by omega) hk
  | succ d ih =>
    intro i hd' hi
    refine Ev.succ ?_
    simp only [impl_pool.l1]
    refine Ev.pos (by omega) ?_
    exact pool_l2 data P h w s st ow oh eh ew hs1 hsh hsw hd hN hP hh hw hst hnum ds dsr n i hn (by omega) r h1 (n : Int) (oh : Int) 0 hM (ih (i + 1) (by omega) (by omega)) ow 0 (by omega) (by omega)
theorem pool_l0 (ds dsr : List Int) (hM : P * oh * ow ≤ 4096) : ∀ (d n : Nat), P - n = d → n ≤ P → Ev (fun K => impl_pool.l0 K (s : Int) (st : Int) (h : Int) (w : Int) (oh : Int) (ow : Int) (P : Int) (n : Int) ds data dsr ((pooled J data (P * oh * ow) h w s st ow oh).take (n * oh * ow))) (dsr, pooled J data (P * oh * ow) h w s st ow oh) := by
  intro d
  induction d with
  | zero =>
    intro n hd' hn
    refine Ev.succ ?_
    simp only [impl_pool.l0]
    refine Ev.neg (by omega) (Ev.some ?_)
    rw [List.take_of_length_le (by rw [show n = P by omega]; simp [pooled])]
  | succ d ih =>
    intro n hd' hn
    refine Ev.succ ?_
    simp only [impl_pool.l0]
    refine Ev.pos (by omega) ?_
    have := pool_l1 data P h w s st ow oh eh ew hs1 hsh hsw hd hN hP hh hw hst hnum ds dsr n (by omega) _ (P : Int) hM (ih (n + 1) (by omega) (by omega)) oh 0 (by omega) (by omega)
    rw [Nat.add_zero] at this
    exact this
end
/-! ### the reference's pools -/
def sacc (J : Int → Int → Int) (v : Nat → Nat → Int) (s t : Nat) : Int := if t = 0 then 0 else accJ J v s t
theorem rd_p0 {xs : List Int} {u v : Int} {n : Nat} (hl : xs.length = n) : rd (xs ++ [u, v]) (n : Int) = u := by
  subst hl
  rw [rd_at (by simp), List.getElem_append_right (Nat.le_refl _)]
  simp
theorem rd_p1 {xs : List Int} {u v : Int} {n : Nat} (hl : xs.length = n) : rd (xs ++ [u, v]) ((n : Int) + 1) = v := by
  subst hl
  rw [show (xs.length : Int) + 1 = ((xs.length + 1 : Nat) : Int) by push_cast; rfl, rd_at (by simp), List.getElem_append_right (by omega)]
  simp
theorem w_2 {n : Nat} (h : n ≤ 6) : wrap64 ((n : Int) + 2 - 2) = (n : Int) := by rw [wrap_id (by omega) (by omega)]; omega
theorem w_1 {n : Nat} (h : n ≤ 6) : wrap64 ((n : Int) + 2 - 1) = (n : Int) + 1 := by rw [wrap_id (by omega) (by omega)]; omega
theorem mulst {i st a N : Nat} (h : i * st + a ≤ N) (hN : N ≤ 16777216) : wrap64 (wrap64 ((i : Int) * (st : Int)) + (a : Int)) = ((i * st + a : Nat) : Int) := by
  rw [show (i : Int) * (st : Int) = ((i * st : Nat) : Int) by push_cast; rfl]
  generalize i * st = x at *
  rw [wz (by omega), show (x : Int) + (a : Int) = ((x + a : Nat) : Int) by push_cast; rfl, wz (by omega)]
theorem set_set_ (l : List Int) (q : Nat) (x y : Int) : (l.set q x).set q y = l.set q y := List.set_set ..
theorem sacc_step {v : Nat → Nat → Int} {s a b : Nat} (hb : b < s) : (if a + b = 0 then v a b else J (sacc J v s (a * s + b)) (v a b)) = sacc J v s (a * s + (b + 1)) := by
  unfold sacc
  rw [if_neg (show ¬ a * s + (b + 1) = 0 by omega)]
  by_cases hz : a + b = 0
  · have e1 : a = 0 := by omega
    have e2 : b = 0 := by omega
    subst e1
    subst e2
    simp [accJ]
  · have hpos : ¬ a * s + b = 0 := by
      intro hz'
      apply hz
      have : a * s = 0 := by omega
      rcases Nat.mul_eq_zero.1 this with e | e <;> omega
    rw [if_neg hpos, if_neg hz]
    exact acc_step hb hz _ rfl
theorem spl2_step (ds data dr base xs : List Int) (n s st q a b : Nat) (i j u v c y z x9 : Int) (r : List Int × List Int) (hl : xs.length = n) (hn : n ≤ 4) (h9 : x9 = (n : Int) + 2) (hb : b < s) (hs4 : s ≤ 4096) (hqb : q < base.length)
    (m1 : Aside0 (wrap64 (wrap64 (i * (st : Int)) + (a : Int)) = u)) (m2 : Aside0 (wrap64 (wrap64 (j * (st : Int)) + (b : Int)) = v)) (g : Ev (fun K => spec_l4Get.f K ds data (xs ++ [u, v])) y) (ha : a < s) (hz : Aside0 ((if a + b = 0 then y else J c y) = z))
    (ih : Ev (fun K => spec_l5Pool.l2 K (s : Int) (st : Int) x9 (q : Int) (xs ++ [i, j]) (a : Int) ((b + 1 : Nat) : Int) ds data dr (base.set q z)) r) :
    Ev (fun K => spec_l5Pool.l2 K (s : Int) (st : Int) x9 (q : Int) (xs ++ [i, j]) (a : Int) (b : Int) ds data dr (base.set q c)) r := by
  have u1 : (xs ++ [i, j]).length = n + 2 := by rw [List.length_append, hl]; rfl
  have st2 := set_app2 xs i j u v n hl
  have rq : rd (base.set q c) (q : Int) = c := by
    rw [rd_at (by simpa using hqb), List.getElem_set_self]
  refine Ev.succ ?_
  simp only [spec_l5Pool.l2]
  subst h9
  rw [w_2 (by omega), w_1 (by omega), rd_p0 hl, rd_p1 hl, m1.out, m2.out, up b hb (by omega)]
  have w3 := with_f (xs ++ [i, j]) n u (by omega) (by omega)
  have w4 := with_f ((xs ++ [i, j]).set n u) (n + 1) v (by rw [List.length_set]; omega) (by rw [List.length_set]; omega)
  rw [st2] at w4
  rw [show ((n : Int) + 1) = ((n + 1 : Nat) : Int) by push_cast; rfl]
  clear m1 m2 st2
  refine Ev.pos (by omega) (Ev.pos (by omega) (Ev.pos (by omega) (Ev.b w3 (Ev.pos (by omega) (Ev.pos (by omega) (Ev.b w4 (Ev.bind g ?_)))))))
  have wab : wrap64 ((a : Int) + (b : Int)) = ((a + b : Nat) : Int) := by
    rw [show (a : Int) + (b : Int) = ((a + b : Nat) : Int) by push_cast; rfl]
    exact wz (by omega)
  rw [wab]
  have hzz := hz.out
  clear hz wab w3 w4
  by_cases h0 : a + b = 0
  · rw [if_pos h0] at hzz
    subst hzz
    refine Ev.pos (by omega) (Ev.pos (by omega) (Ev.pos (by rw [List.length_set]; omega) ?_))
    rw [Int.toNat_natCast, set_set_]
    exact ih
  · rw [if_neg h0] at hzz
    refine Ev.neg (by omega) (Ev.b (sg_s _) (Ev.pos (by omega) (Ev.pos (by rw [List.length_set]; omega) ?_)))
    rw [rq]
    refine Ev.b (sg_s _) ?_
    unfold J at hzz
    refine Ev.ite (fun h1 => ?_) (fun h1 => ?_)
    · rw [if_pos (show sg c < sg y by omega)] at hzz
      subst hzz
      rw [Int.toNat_natCast, set_set_]
      exact ih
    · rw [if_neg (show ¬ sg c < sg y by omega)] at hzz
      subst hzz
      exact ih
section
set_option linter.unusedSectionVars false
variable (data p : List Int) (h w s st ow oh : Nat) (eh : oh = outN h s st) (ew : ow = outN w s st) (hs1 : 1 ≤ s) (hsh : s ≤ h) (hsw : s ≤ w) (hh : h ≤ 4096) (hw : w ≤ 4096) (hnum : data.all numB = true) (hp : p.length ≤ 4) (hr : runOk 1 (p ++ [(h : Int), (w : Int)]) = true) (hd : (data.length : Int) = prod (p ++ [(h : Int), (w : Int)]))
include eh ew hs1 hsh hsw hh hw hnum hp hr hd
theorem read_win (q a b : Nat) (hq : ((q / ow / oh : Nat) : Int) < prod p) (ha : a < s) (hb : b < s) :
    Ev (fun K => spec_l4Get.f K (p ++ [(h : Int), (w : Int)]) data ((idxs p ((q / ow / oh : Nat) : Int)).1 ++ [((q / ow % oh * st + a : Nat) : Int), ((q % ow * st + b : Nat) : Int)])) (winV data h w st ow oh q a b) := by
  have hoh : 0 < oh := by rw [eh]; exact Nat.succ_pos _
  have how : 0 < ow := by rw [ew]; exact Nat.succ_pos _
  have hi := outN_le (n := h) (s := s) (st := st) (i := q / ow % oh) (by rw [← eh]; exact Nat.mod_lt _ hoh) hsh
  have hj := outN_le (n := w) (s := s) (st := st) (i := q % ow) (by rw [← ew]; exact Nat.mod_lt _ how) hsw
  have hpd : ∀ d ∈ p, 1 ≤ d := fun d hm => (run_all (run_pre hr) d hm).1
  have hin := idxs_in hpd (Int.natCast_nonneg (q / ow / oh))
  have htop := (idxs_top hpd (Int.natCast_nonneg (q / ow / oh)) hq).2
  have hl := idxs_len p ((q / ow / oh : Nat) : Int)
  have iD : inD (p ++ [(h : Int), (w : Int)]) ((idxs p ((q / ow / oh : Nat) : Int)).1 ++ [((q / ow % oh * st + a : Nat) : Int), ((q % ow * st + b : Nat) : Int)]) := inD_app hin (Int.natCast_nonneg _) (Int.ofNat_lt.2 (by omega)) (Int.natCast_nonneg _) (Int.ofNat_lt.2 (by omega))
  have g := get_ev (p ++ [(h : Int), (w : Int)]) data _ (by simp; omega) (by rw [List.length_append, List.length_append, hl]; rfl) hr iD hd
  rw [ord_app p _ _ _ _ _ hl, htop] at g
  have e : ((q / ow / oh : Nat) : Int) * (h : Int) + ((q / ow % oh * st + a : Nat) : Int) = ((q / ow / oh * h + (q / ow % oh * st + a) : Nat) : Int) := by
    generalize q / ow / oh = x
    generalize q / ow % oh * st + a = y
    push_cast
    rfl
  rw [e] at g
  have e2 : ((q / ow / oh * h + (q / ow % oh * st + a) : Nat) : Int) * (w : Int) + ((q % ow * st + b : Nat) : Int) = (winP h w st ow oh q a b : Int) := by
    unfold winP
    generalize q / ow / oh * h + (q / ow % oh * st + a) = x
    generalize q % ow * st + b = y
    push_cast
    rfl
  rw [e2] at g
  exact g
theorem sp_l2 (q a : Nat) (hq : ((q / ow / oh : Nat) : Int) < prod p) (hqN : q ≤ 16777216) (ha : a < s) (x9 : Int) (h9 : x9 = (p.length : Int) + 2) (base dr : List Int) (hqb : q < base.length) (r : List Int × List Int)
    (hk : Ev (fun K => spec_l5Pool.l1 K (s : Int) (st : Int) x9 (q : Int) ((idxs p ((q / ow / oh : Nat) : Int)).1 ++ [((q / ow % oh : Nat) : Int), ((q % ow : Nat) : Int)]) ((a + 1 : Nat) : Int) (p ++ [(h : Int), (w : Int)]) data dr (base.set q (sacc J (winV data h w st ow oh q) s ((a + 1) * s)))) r) :
    ∀ (d b : Nat), s - b = d → b ≤ s → Ev (fun K => spec_l5Pool.l2 K (s : Int) (st : Int) x9 (q : Int) ((idxs p ((q / ow / oh : Nat) : Int)).1 ++ [((q / ow % oh : Nat) : Int), ((q % ow : Nat) : Int)]) (a : Int) (b : Int) (p ++ [(h : Int), (w : Int)]) data dr (base.set q (sacc J (winV data h w st ow oh q) s (a * s + b)))) r := by
  have hoh : 0 < oh := by rw [eh]; exact Nat.succ_pos _
  have how : 0 < ow := by rw [ew]; exact Nat.succ_pos _
  have hi := outN_le (n := h) (s := s) (st := st) (i := q / ow % oh) (by rw [← eh]; exact Nat.mod_lt _ hoh) hsh
  have hj := outN_le (n := w) (s := s) (st := st) (i := q % ow) (by rw [← ew]; exact Nat.mod_lt _ how) hsw
  have hl := idxs_len p ((q / ow / oh : Nat) : Int)
  intro d
  induction d with
  | zero =>
    intro b hd' hb
    refine Ev.succ ?_
    simp only [spec_l5Pool.l2]
    rw [up a ha (by omega)]
    have e : a * s + b = (a + 1) * s := by rw [show b = s by omega, Nat.add_mul, Nat.one_mul]
    rw [e]
    exact Ev.neg (by omega) hk
  | succ d ih =>
    intro b hd' hb
    have hb' : b < s := by omega
    have g := read_win data p h w s st ow oh eh ew hs1 hsh hsw hh hw hnum hp hr hd q a b hq ha hb'
    have ih := ih (b + 1) (by omega) (by omega)
    have m1 := mulst (i := q / ow % oh) (st := st) (a := a) (N := 4096) (by omega) (by decide)
    have m2 := mulst (i := q % ow) (st := st) (a := b) (N := 4096) (by omega) (by decide)
    have stp := sacc_step (v := winV data h w st ow oh q) (a := a) hb'
    exact spl2_step (p ++ [(h : Int), (w : Int)]) data dr base (idxs p ((q / ow / oh : Nat) : Int)).1 p.length s st q a b _ _ _ _ _ _ _ x9 r hl hp h9 hb' (Nat.le_trans hsh hh) hqb ⟨m1⟩ ⟨m2⟩ g ha ⟨stp⟩ ih
theorem sp_l1 (q : Nat) (hq : ((q / ow / oh : Nat) : Int) < prod p) (hqN : q ≤ 16777216) (x9 : Int) (h9 : x9 = (p.length : Int) + 2) (base dr : List Int) (hqb : q < base.length) (r : List Int × List Int)
    (hk : Ev (fun K => spec_l5Pool.l0 K (s : Int) (st : Int) x9 ((q + 1 : Nat) : Int) (p ++ [(h : Int), (w : Int)]) data dr (base.set q (sacc J (winV data h w st ow oh q) s (s * s)))) r) :
    ∀ (d a : Nat), s - a = d → a ≤ s → Ev (fun K => spec_l5Pool.l1 K (s : Int) (st : Int) x9 (q : Int) ((idxs p ((q / ow / oh : Nat) : Int)).1 ++ [((q / ow % oh : Nat) : Int), ((q % ow : Nat) : Int)]) (a : Int) (p ++ [(h : Int), (w : Int)]) data dr (base.set q (sacc J (winV data h w st ow oh q) s (a * s)))) r := by
  intro d
  induction d with
  | zero =>
    intro a hd' ha
    refine Ev.succ ?_
    simp only [spec_l5Pool.l1]
    rw [up q (show q < q + 1 by omega) (by omega), show a = s by omega]
    exact Ev.neg (by omega) hk
  | succ d ih =>
    intro a hd' ha
    refine Ev.succ ?_
    simp only [spec_l5Pool.l1]
    refine Ev.pos (by omega) ?_
    have := sp_l2 data p h w s st ow oh eh ew hs1 hsh hsw hh hw hnum hp hr hd q a hq hqN (by omega) x9 h9 base dr hqb r (ih (a + 1) (by omega) (by omega)) s 0 (by omega) (by omega)
    rw [Nat.add_zero] at this
    exact this
theorem sp_l0 (N : Nat) (x9 : Int) (h9 : x9 = (p.length : Int) + 2) (hN : (N : Int) = prod (p ++ [(oh : Int), (ow : Int)])) (hN4 : N ≤ 4096) (hr' : runOk 1 (p ++ [(oh : Int), (ow : Int)]) = true) :
    ∀ (d q : Nat), N - q = d → q ≤ N → Ev (fun K => spec_l5Pool.l0 K (s : Int) (st : Int) x9 (q : Int) (p ++ [(h : Int), (w : Int)]) data (p ++ [(oh : Int), (ow : Int)]) ((pooled J data N h w s st ow oh).take q ++ List.replicate (N - q) 0)) (p ++ [(oh : Int), (ow : Int)], pooled J data N h w s st ow oh) := by
  have hoh : 0 < oh := by rw [eh]; exact Nat.succ_pos _
  have how : 0 < ow := by rw [ew]; exact Nat.succ_pos _
  have hpl : (pooled J data N h w s st ow oh).length = N := by simp [pooled]
  intro d
  induction d with
  | zero =>
    intro q hd' hq
    refine Ev.succ ?_
    simp only [spec_l5Pool.l0]
    refine Ev.neg (by simp [hpl]; omega) (Ev.some ?_)
    rw [List.take_of_length_le (by rw [hpl]; omega), show N - q = 0 by omega]
    simp
  | succ d ih =>
    intro q hd' hq
    have hlt : q < N := by omega
    have ih := ih (q + 1) (by omega) (by omega)
    have hqp : ((q / ow / oh : Nat) : Int) < prod p := by
      rw [prod_app] at hN
      obtain ⟨P, eP⟩ := Int.eq_ofNat_of_zero_le (Int.le_of_lt (Int.lt_of_lt_of_le Int.zero_lt_one (prod_pos (run_pre hr))))
      rw [eP] at hN ⊢
      have hN' : N = P * oh * ow := by exact_mod_cast hN
      have : q / ow / oh < P := by
        rw [Nat.div_lt_iff_lt_mul hoh, Nat.div_lt_iff_lt_mul how, ← hN']
        exact hlt
      exact_mod_cast this
    have ix := index_ev (p ++ [(oh : Int), (ow : Int)]) (by simp; omega) (fun d hm => (run_all hr' d hm).1) (q : Int) (by omega) (by omega)
    rw [idxs_app] at ix
    have z : ((pooled J data N h w s st ow oh).take q ++ List.replicate (N - q) 0).set q (sacc J (winV data h w st ow oh q) s (0 * s)) = (pooled J data N h w s st ow oh).take q ++ List.replicate (N - q) 0 := by
      rw [Nat.zero_mul]
      show List.set _ q 0 = _
      rw [List.set_append_right _ _ (by rw [List.length_take, hpl]; omega), show N - q = (N - q - 1) + 1 by omega, List.replicate_succ, List.length_take, hpl, Nat.min_eq_left (by omega), Nat.sub_self, List.set_cons_zero]
    have o := set_fill (L := pooled J data N h w s st ow oh) (z := (0 : Int)) (i := q) (by rw [hpl]; exact hlt)
    have e : (pooled J data N h w s st ow oh)[q]'(by rw [hpl]; exact hlt) = sacc J (winV data h w st ow oh q) s (s * s) := by
      have : ¬ s * s = 0 := by
        intro hz
        rcases Nat.mul_eq_zero.1 hz with e | e <;> omega
      unfold sacc
      rw [if_neg this]
      simp [pooled]
    rw [e, hpl] at o
    rw [← o] at ih
    have c1 : ((q : Int) / (ow : Int) / (oh : Int)) = ((q / ow / oh : Nat) : Int) := by push_cast; rfl
    have c2 : ((q : Int) / (ow : Int) % (oh : Int)) = ((q / ow % oh : Nat) : Int) := by push_cast; rfl
    have c3 : ((q : Int) % (ow : Int)) = ((q % ow : Nat) : Int) := by push_cast; rfl
    rw [c1, c2, c3] at ix
    refine Ev.succ ?_
    simp only [spec_l5Pool.l0]
    refine Ev.pos (by rw [List.length_append, List.length_take, List.length_replicate, hpl]; omega) (Ev.bind ix ?_)
    have := sp_l1 data p h w s st ow oh eh ew hs1 hsh hsw hh hw hnum hp hr hd q hqp (by omega) x9 h9 _ (p ++ [(oh : Int), (ow : Int)]) (by rw [List.length_append, List.length_take, List.length_replicate, hpl]; omega) _ ih s 0 (by omega) (by omega)
    rw [z] at this
    exact this
end
theorem outI_nat (n s st : Nat) (h1 : 1 ≤ s) (h2 : 1 ≤ st) (h3 : s ≤ n) : outI (n : Int) (s : Int) (st : Int) = (outN n s st : Int) := by
  unfold outI outN
  rw [if_neg (by omega), show (n : Int) - (s : Int) = ((n - s : Nat) : Int) by omega]
  push_cast
  rfl
theorem outW_nat (n s st : Nat) (h1 : 1 ≤ s) (h2 : 1 ≤ st) (h3 : s ≤ n) (h4 : n ≤ 4096) : wrap64 (wrap64 (Int.tdiv (wrap64 ((n : Int) - (s : Int))) (st : Int)) + 1) = (outN n s st : Int) := by
  have q := Nat.div_le_self (n - s) st
  unfold outN
  rw [show (n : Int) - (s : Int) = ((n - s : Nat) : Int) by omega, wz (by omega), Int.tdiv_eq_ediv_of_nonneg (by omega), show ((n - s : Nat) : Int) / (st : Int) = (((n - s) / st : Nat) : Int) by push_cast; rfl, wz (by omega)]
  rw [show (((n - s) / st : Nat) : Int) + 1 = (((n - s) / st + 1 : Nat) : Int) by push_cast; rfl, wz (by omega)]
theorem pool_ev (ds data : List Int) (s st : Int) (h1 : ds.length ≤ 1048576) (h2 : data.length ≤ 1048576) : ∃ x y, Ev (fun k => spec_MaxPool.f k ds data s st) (x, y) ∧ Ev (fun k => impl_MaxPool.f k ds data s st) (x, y) ∧ x.length ≤ 1048576 ∧ y.length ≤ 1048576 := by
  unfold spec_MaxPool.f impl_MaxPool.f spec_l5Pool.f impl_pool.f
  have s0 := stens_ev ds data (by omega) (by omega)
  have t := itens_ev ds data (by omega) (by omega)
  have sj : ∀ L, Ev (fun k => spec_l5Pool.j0 k s st L true ds data) (([] : List Int), ([] : List Int)) := by
    intro L
    refine Ev.succ ?_
    simp only [spec_l5Pool.j0]
    exact Ev.pos (by trivial) (Ev.some rfl)
  have ij : ∀ L, Ev (fun k => impl_pool.j0 k s st L true ds data) (([] : List Int), ([] : List Int)) := by
    intro L
    refine Ev.succ ?_
    simp only [impl_pool.j0]
    exact Ev.pos (by trivial) (Ev.some rfl)
  cases ht : tensB ds data with
  | false =>
    rw [ht] at s0 t
    exact ⟨[], [], Ev.bind (a := (([] : List Int), ([] : List Int))) (Ev.bind s0 (Ev.neg (by simp) (sj _))) (Ev.some rfl), Ev.b (show impl_twoOf.f 5 = some _ from by unfold impl_twoOf.f; exact if_pos rfl) (Ev.bind (a := (([] : List Int), ([] : List Int))) (Ev.bind t (Ev.neg (by simp) (ij _))) (Ev.some rfl)), by simp, by simp⟩
  | true =>
    rw [ht] at s0 t
    by_cases hl : (ds.length : Int) < 2
    · refine ⟨[], [], Ev.bind (a := (([] : List Int), ([] : List Int))) (Ev.bind s0 (Ev.pos rfl ?_)) (Ev.some rfl), Ev.b (show impl_twoOf.f 5 = some _ from by unfold impl_twoOf.f; exact if_pos rfl) (Ev.bind (a := (([] : List Int), ([] : List Int))) (Ev.bind t (Ev.pos rfl (Ev.pos hl (ij _)))) (Ev.some rfl)), by simp, by simp⟩
      rw [decide_eq_true hl]
      exact sj _
    obtain ⟨p, hI, wI, rfl⟩ := two_behind ds (by omega)
    have e9 : ((p ++ [hI, wI]).length : Int) = (p.length : Int) + 2 := by simp
    have ht' := ht
    unfold tensB dimsB at ht'
    simp only [Bool.and_eq_true, decide_eq_true_eq] at ht'
    obtain ⟨⟨hl6, hr⟩, hd, hnum⟩ := ht'
    have hp : p.length ≤ 4 := by omega
    have hrun := run_all hr
    have hh := hrun hI (by simp)
    have hw := hrun wI (by simp)
    have r0 := rd_p0 (xs := p) (u := hI) (v := wI) rfl
    have r1 := rd_p1 (xs := p) (u := hI) (v := wI) rfl
    have w2 := w_2 (n := p.length) (by omega)
    have w1 := w_1 (n := p.length) (by omega)
    have spath : ∀ {R}, Ev (fun k => if outI hI s st = 0 then spec_l5Pool.j1 k s st ((p.length : Int) + 2) (outI hI s st) (outI wI s st) true (p ++ [hI, wI]) data else spec_l5Pool.j1 k s st ((p.length : Int) + 2) (outI hI s st) (outI wI s st) (outI wI s st == 0) (p ++ [hI, wI]) data) R → Ev (fun k => (spec_TensorOk.f k (p ++ [hI, wI]) data).bind fun t148 => (if t148 = true then (spec_l5Pool.j0 k s st ((p ++ [hI, wI]).length : Int) (decide (((p ++ [hI, wI]).length : Int) < 2)) (p ++ [hI, wI]) data) else (spec_l5Pool.j0 k s st ((p ++ [hI, wI]).length : Int) true (p ++ [hI, wI]) data))) R := by
      intro R h
      refine Ev.bind s0 (Ev.pos rfl (Ev.succ ?_))
      rw [decide_eq_false hl]
      simp only [spec_l5Pool.j0]
      rw [e9, w2, w1, r0, r1]
      exact Ev.neg (by simp) (Ev.pos (by omega) (Ev.pos (by omega) (Ev.bind (out_ev hI s st hh.1 hh.2) (Ev.pos (by omega) (Ev.pos (by omega) (Ev.bind (out_ev wI s st hw.1 hw.2) h))))))
    have sbad : outI hI s st = 0 ∨ outI wI s st = 0 → Ev (fun k => if outI hI s st = 0 then spec_l5Pool.j1 k s st ((p.length : Int) + 2) (outI hI s st) (outI wI s st) true (p ++ [hI, wI]) data else spec_l5Pool.j1 k s st ((p.length : Int) + 2) (outI hI s st) (outI wI s st) (outI wI s st == 0) (p ++ [hI, wI]) data) (([] : List Int), ([] : List Int)) := by
      intro h
      have j : Ev (fun k => spec_l5Pool.j1 k s st ((p.length : Int) + 2) (outI hI s st) (outI wI s st) true (p ++ [hI, wI]) data) (([] : List Int), ([] : List Int)) := by
        refine Ev.succ ?_
        simp only [spec_l5Pool.j1]
        exact Ev.pos (by trivial) (Ev.some rfl)
      by_cases h0 : outI hI s st = 0
      · exact Ev.pos h0 j
      · refine Ev.neg h0 ?_
        rw [show (outI wI s st == 0) = true by simpa using h.resolve_left h0]
        exact j
    by_cases c1 : s < 1
    · refine ⟨[], [], Ev.bind (a := (([] : List Int), ([] : List Int))) (spath (sbad (.inl (by unfold outI; rw [if_pos (.inl c1)])))) (Ev.some rfl), Ev.b (show impl_twoOf.f 5 = some _ from by unfold impl_twoOf.f; exact if_pos rfl) (Ev.bind (a := (([] : List Int), ([] : List Int))) (Ev.bind t (Ev.pos rfl (Ev.neg hl (Ev.pos c1 (ij _))))) (Ev.some rfl)), by simp, by simp⟩
    by_cases c2 : st < 1
    · refine ⟨[], [], Ev.bind (a := (([] : List Int), ([] : List Int))) (spath (sbad (.inl (by unfold outI; rw [if_pos (.inr (.inl c2))])))) (Ev.some rfl), Ev.b (show impl_twoOf.f 5 = some _ from by unfold impl_twoOf.f; exact if_pos rfl) (Ev.bind (a := (([] : List Int), ([] : List Int))) (Ev.bind t (Ev.pos rfl (Ev.neg hl (Ev.neg c1 (Ev.pos c2 (ij _)))))) (Ev.some rfl)), by simp, by simp⟩
    by_cases c3 : s > wI
    · refine ⟨[], [], Ev.bind (a := (([] : List Int), ([] : List Int))) (spath (sbad (.inr (by unfold outI; rw [if_pos (.inr (.inr c3))])))) (Ev.some rfl), Ev.b (show impl_twoOf.f 5 = some _ from by unfold impl_twoOf.f; exact if_pos rfl) (Ev.bind (a := (([] : List Int), ([] : List Int))) (Ev.bind t (Ev.pos rfl (Ev.neg hl (Ev.neg c1 (Ev.neg c2 ?_))))) (Ev.some rfl)), by simp, by simp⟩
      rw [e9, w1, r1]
      exact Ev.pos (by omega) (Ev.pos (by omega) (Ev.pos c3 (ij _)))
    by_cases c4 : s > hI
    · refine ⟨[], [], Ev.bind (a := (([] : List Int), ([] : List Int))) (spath (sbad (.inl (by unfold outI; rw [if_pos (.inr (.inr c4))])))) (Ev.some rfl), Ev.b (show impl_twoOf.f 5 = some _ from by unfold impl_twoOf.f; exact if_pos rfl) (Ev.bind (a := (([] : List Int), ([] : List Int))) (Ev.bind t (Ev.pos rfl (Ev.neg hl (Ev.neg c1 (Ev.neg c2 ?_))))) (Ev.some rfl)), by simp, by simp⟩
      rw [e9, w1, w2, r1, r0, decide_eq_true c4]
      exact Ev.pos (by omega) (Ev.pos (by omega) (Ev.neg c3 (Ev.pos (by omega) (Ev.pos (by omega) (ij _)))))
    obtain ⟨S, rfl⟩ := Int.eq_ofNat_of_zero_le (by omega : 0 ≤ s)
    obtain ⟨T, rfl⟩ := Int.eq_ofNat_of_zero_le (by omega : 0 ≤ st)
    obtain ⟨h, rfl⟩ := Int.eq_ofNat_of_zero_le (by omega : 0 ≤ hI)
    obtain ⟨w, rfl⟩ := Int.eq_ofNat_of_zero_le (by omega : 0 ≤ wI)
    have o1 := outI_nat h S T (by omega) (by omega) (by omega)
    have o2 := outI_nat w S T (by omega) (by omega) (by omega)
    have v1 := outW_nat h S T (by omega) (by omega) (by omega) (by omega)
    have v2 := outW_nat w S T (by omega) (by omega) (by omega) (by omega)
    have z1 : 1 ≤ outN h S T := Nat.succ_pos _
    have z2 : 1 ≤ outN w S T := Nat.succ_pos _
    have y1 : outN h S T ≤ h := by
      have := Nat.div_le_self (h - S) T
      unfold outN
      omega
    have y2 : outN w S T ≤ w := by
      have := Nat.div_le_self (w - S) T
      unfold outN
      omega
    have hr' := run_app (g := (outN h S T : Int)) (v := (outN w S T : Int)) (by omega) (by omega) (by omega) (by omega) (by decide) hr
    have pp := prod_pos (run_pre hr)
    obtain ⟨P, eP⟩ := Int.eq_ofNat_of_zero_le (by omega : 0 ≤ prod p)
    have p' := prod_le hr' 0
    have pq := prod_le hr 0
    rw [List.drop_zero, prod_app, eP] at p' pq
    have hN : data.length = P * h * w := by
      rw [prod_app, eP] at hd
      exact_mod_cast hd
    have hM : (P : Int) * (outN h S T : Int) * (outN w S T : Int) = ((P * outN h S T * outN w S T : Nat) : Int) := by push_cast; rfl
    have hM4 : P * outN h S T * outN w S T ≤ 4096 := by
      rw [hM] at p'
      omega
    have hPhw : P * h * w ≤ 4096 := by
      have : (P : Int) * (h : Int) * (w : Int) = ((P * h * w : Nat) : Int) := by push_cast; rfl
      rw [this] at pq
      omega
    have hP4 : P ≤ 4096 := by
      have k1 : P * 1 ≤ P * h := Nat.mul_le_mul_left _ (by omega)
      have k2 : P * h * 1 ≤ P * h * w := Nat.mul_le_mul_left _ (by omega)
      omega
    have sl := sp_l0 data p h w S T (outN w S T) (outN h S T) rfl rfl (by omega) (by omega) (by omega) (by omega) (by omega) hnum hp hr hd (P * outN h S T * outN w S T) ((p.length : Int) + 2) rfl (by rw [prod_app, eP, hM]) hM4 hr' (P * outN h S T * outN w S T) 0 (by omega) (by omega)
    rw [List.take_zero, List.nil_append, Nat.sub_zero] at sl
    have il := pool_l0 data P h w S T (outN w S T) (outN h S T) rfl rfl (by omega) (by omega) (by omega) hN hPhw hP4 (by omega) (by omega) (by omega) hnum (p ++ [(h : Int), (w : Int)]) (p ++ [(outN h S T : Int), (outN w S T : Int)]) hM4 P 0 (by omega) (by omega)
    rw [Nat.zero_mul, Nat.zero_mul, List.take_zero] at il
    refine ⟨p ++ [(outN h S T : Int), (outN w S T : Int)], pooled J data (P * outN h S T * outN w S T) h w S T (outN w S T) (outN h S T), Ev.bind (a := (p ++ [(outN h S T : Int), (outN w S T : Int)], pooled J data (P * outN h S T * outN w S T) h w S T (outN w S T) (outN h S T))) (spath (Ev.neg (by rw [o1]; omega) (Ev.succ ?_))) (Ev.some rfl), Ev.b (show impl_twoOf.f 5 = some _ from by unfold impl_twoOf.f; exact if_pos rfl) (Ev.bind (a := (p ++ [(outN h S T : Int), (outN w S T : Int)], pooled J data (P * outN h S T * outN w S T) h w S T (outN w S T) (outN h S T))) (Ev.bind t (Ev.pos rfl (Ev.neg hl (Ev.neg c1 (Ev.neg c2 ?_))))) (Ev.some rfl)), by simp <;> omega, by simp [pooled] <;> omega⟩
    · simp only [spec_l5Pool.j1]
      rw [o1, o2, w2, w1, show (((outN w S T : Nat) : Int) == 0) = false by simp; omega]
      have e := size_ev (p ++ [(outN h S T : Int), (outN w S T : Int)]) (by simp <;> omega)
      rw [if_pos hr', prod_app, eP, hM] at e
      refine Ev.neg (by simp) (Ev.b (with_f _ p.length _ (by simp) (by simp <;> omega)) ?_)
      rw [show (p.length : Int) + 1 = ((p.length + 1 : Nat) : Int) by push_cast; rfl]
      refine Ev.b (with_f _ (p.length + 1) _ (by simp) (by simp <;> omega)) ?_
      rw [set_app2 p _ _ _ _ p.length rfl]
      refine Ev.bind (a := (p ++ [(outN h S T : Int), (outN w S T : Int)], List.replicate (P * outN h S T * outN w S T) 0)) ?_ ?_
      · unfold spec_l4New.f
        refine Ev.b (l3Ints_f _ (by simp <;> omega)) (Ev.bind e (Ev.pos (Int.natCast_nonneg _) (Ev.pos ?_ (Ev.some ?_))))
        · rw [Int.toNat_natCast]
          exact Nat.le_trans hM4 (by decide)
        · rw [Int.toNat_natCast]
      · exact sl
    · rw [e9, w1, w2, r1, r0, decide_eq_false c4]
      refine Ev.pos (by omega) (Ev.pos (by omega) (Ev.neg c3 (Ev.pos (by omega) (Ev.pos (by omega) (Ev.succ ?_)))))
      simp only [impl_pool.j0]
      rw [e9, w1, w2, r1, r0, v1, v2, Int.toNat_natCast, List.take_left]
      have pr := product_ev p (by omega) (run_pre hr)
      rw [eP] at pr
      exact Ev.neg (by simp) (Ev.pos (by omega) (Ev.pos (by omega) (Ev.pos (by omega) (Ev.pos (by omega) (Ev.neg (by omega) (Ev.pos (by omega) (Ev.b (clone_f p (by omega)) (Ev.b rfl (Ev.pos (by simp <;> omega) (Ev.bind pr il))))))))))
theorem rest (l0 l1 : List Int) (a a2 : Int) (x y : List Int) (h0 : l0.length ≤ 1048576) (h1 : l1.length ≤ 1048576) (hx : x.length ≤ 1048576) (hy : y.length ≤ 1048576) (hi : Ev (fun k => impl_MaxPool.f k l0 l1 a a2) (x, y)) : Ev (fun k => laws_FnExactMaxPool.j0 k a a2 false l0 l1 x y x y) true := by
  have m := markTensor_ev x y hx hy
  have h : Ev (fun k => laws_heldTensor.f k (ups 1 x.length) (ups (1 + (x.length : Int)) y.length) 1) (1 + (x.length : Int) + y.length) := by
    unfold laws_heldTensor.f
    exact Ev.bind (held_ev x.length 1 (by omega) (by omega)) (Ev.neg (by omega) (Ev.bind (held_ev y.length _ (by omega) (by omega)) (Ev.neg (by omega) (Ev.some rfl))))
  refine Ev.succ ?_
  simp only [laws_FnExactMaxPool.j0]
  exact Ev.neg (by simp) (Ev.bind m (Ev.bind h (Ev.neg (by omega) (Ev.pos rfl (Ev.bind (toTensor_ev l0 l1 h0 h1) (Ev.bind hi (Ev.bind (eqTensor_ev x y hx hy) (Ev.pos rfl (Ev.bind h (Ev.neg (by omega) (Ev.pos rfl (Ev.some rfl))))))))))))
theorem FnExactMaxPool (l0 l1 : List Int) (a a2 : Int) {p q : Int → Prop} (hg : (l0.length ≤ maxLen ∧ ∀ y ∈ l0, p y) ∧ (l1.length ≤ maxLen ∧ ∀ y ∈ l1, q y)) : ∃ k, laws_FnExactMaxPool.f k l0 l1 a a2 = some true := by
  have h0 : l0.length ≤ 9223372036854775807 := hg.1.1
  have h1 : l1.length ≤ 9223372036854775807 := hg.2.1
  apply Ev.rounds
  unfold laws_FnExactMaxPool.f
  obtain ⟨q, hq, hz⟩ := szTensor_f l0 l1 h0 h1
  refine Ev.b hq ?_
  rcases hz with hz | ⟨hz, g0, g1⟩
  · exact Ev.pos hz (Ev.some rfl)
  refine Ev.neg (by omega) ?_
  have t := toTensor_ev l0 l1 g0 g1
  obtain ⟨x, y, hs, hi, hx, hy⟩ := pool_ev l0 l1 a a2 g0 g1
  refine Ev.bind t (Ev.bind hs (Ev.bind t (Ev.bind hi (Ev.bind (eqTensor_ev x y hx hy) (Ev.pos rfl (Ev.bind t (Ev.bind (eqTensor_ev l0 l1 g0 g1) (Ev.pos rfl (Ev.bind (markTensor_ev l0 l1 g0 g1) (Ev.neg (by simp <;> omega) (Ev.bind (eqTensor_ev x y hx hy) ?_)))))))))))
  exact rest l0 l1 a a2 x y g0 g1 hx hy hi
end Go.Proofs.Ytkgknnhecbbfgab.PureFnExactMaxPool
