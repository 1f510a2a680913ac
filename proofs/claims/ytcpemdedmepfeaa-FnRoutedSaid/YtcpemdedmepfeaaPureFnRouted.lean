/- The pure statement of FnRouted: no expert gets more than it takes, no two tokens have one place, and a token without an expert found all full. -/
import Derived.Test.YtcpemdedmepfeaaPFnRoutedx
import Derived.Test.YtcpemdedmepfeaaBase
import Derived.Test.YtcpemdedmepfeaaVMp
namespace Go.Proofs.Ytcpemdedmepfeaa.PureFnRouted
set_option linter.unusedVariables false
set_option linter.unusedSimpArgs false
open Go.RowKit Go.Proofs.Ytcpemdedmepfeaa.PFnRouted Go.Proofs.YtcpemdedmepfeaaW.PrintWords Go.Proofs.YtcpemdedmepfeaaW.PrintLast Go.Proofs.YtcpemdedmepfeaaW.PrintMore Go.Proofs.Ytcpemdedmepfeaa.Base Go.Proofs.Ytcpemdedmepfeaa.VMp
/-! ### lengths -/
theorem size_l (l : List Int) (hn : l.length ≤ 9223372036854775807) : ∀ (d i : Nat) (n : Int), l.length - i = d → i ≤ l.length → 1 ≤ n → n ≤ 4096 → Ev (fun k => spec_l3Size.l0 k l n (i : Int)) (if runOk n (l.drop i) = true then n * prod (l.drop i) else 0) := by
  intro d
  induction d with
  | zero =>
    intro i n hd hi h0 h1
    refine Ev.succ ?_
    simp only [spec_l3Size.l0]
    refine Ev.neg (by omega) (Ev.some ?_)
    rw [List.drop_eq_nil_of_le (by omega)]
    simp [runOk, prod]
  | succ d ih =>
    intro i n hd hi h0 h1
    have hlt : i < l.length := by omega
    refine Ev.succ ?_
    simp only [spec_l3Size.l0]
    refine Ev.pos (by omega) (Ev.pos (by omega) ?_)
    rw [rd_at hlt, drop_at hlt]
    refine Ev.ite (fun h => Ev.succ ?_) (fun h => Ev.succ ?_)
    · simp only [spec_l3Size.j1]
      refine Ev.pos (by trivial) (Ev.some ?_)
      simp [runOk, h]
    · simp only [spec_l3Size.j1]
      by_cases h2 : 4096 < l[i]
      · refine Ev.pos (by simpa using h2) (Ev.some ?_)
        simp [runOk, h, h2]
      · have p1 : n * l[i] ≤ 4096 * 4096 := Int.mul_le_mul h1 (by omega) (by omega) (by omega)
        have p0 : 1 * 1 ≤ n * l[i] := Int.mul_le_mul h0 (by omega) (by omega) (by omega)
        refine Ev.neg (by simpa using h2) (Ev.pos (by omega) (Ev.pos (by omega) ?_))
        rw [rd_at hlt, wrap_id (by omega : -9223372036854775808 ≤ n * l[i]) (by omega), up i hlt hn]
        refine Ev.ite (fun h3 => Ev.some ?_) (fun h3 => ?_)
        · simp [runOk, h, h2, show 4096 < n * l[i] from h3]
        · have e : runOk n (l[i] :: l.drop (i + 1)) = runOk (n * l[i]) (l.drop (i + 1)) := by
            simp [runOk, h, h2, show ¬ 4096 < n * l[i] from h3]
          rw [e]
          simp only [prod]
          rw [← Int.mul_assoc]
          exact ih (i + 1) _ (by omega) (by omega) (by omega) (by omega)
theorem size_ev (l : List Int) (hn : l.length ≤ 9223372036854775807) : Ev (fun k => spec_l3Size.f k l) (if runOk 1 l = true then prod l else 0) := by
  have := size_l l hn l.length 0 1 (by omega) (by omega) (by omega) (by omega)
  rw [Int.one_mul] at this
  exact this
/-- Lengths that can be. -/
def dimsB (l : List Int) : Bool := decide (l.length ≤ 6) && runOk 1 l
theorem sdims_ev (l : List Int) (hn : l.length ≤ 9223372036854775807) : Ev (fun k => spec_DimsOk.f k l) (dimsB l) := by
  unfold spec_DimsOk.f dimsB
  refine Ev.ite (fun h => Ev.bind (size_ev l hn) (Ev.some ?_)) (fun h => Ev.some ?_)
  · rw [show decide (l.length ≤ 6) = true from decide_eq_true (by omega), Bool.true_and]
    cases hr : runOk 1 l with
    | true =>
      have := prod_pos hr
      simp
      omega
    | false => simp
  · rw [show decide (l.length ≤ 6) = false from decide_eq_false (by omega)]
    rfl
theorem idims_l (l : List Int) (hn : l.length ≤ 9223372036854775807) : ∀ (d i : Nat) (n : Int), l.length - i = d → i ≤ l.length → 1 ≤ n → n ≤ 4096 → Ev (fun k => impl_DimsOk.l0 k l n l (l.length : Int) (i : Int)) (decide (l.length ≤ 6) && runOk n (l.drop i)) := by
  intro d
  induction d with
  | zero =>
    intro i n hd hi h0 h1
    refine Ev.succ ?_
    simp only [impl_DimsOk.l0]
    refine Ev.neg (by omega) (Ev.some ?_)
    rw [List.drop_eq_nil_of_le (by omega)]
    simp only [runOk, Bool.and_true]
    exact decide_eq_decide.2 (by omega)
  | succ d ih =>
    intro i n hd hi h0 h1
    have hlt : i < l.length := by omega
    refine Ev.succ ?_
    simp only [impl_DimsOk.l0]
    refine Ev.pos (by omega) (Ev.pos (by omega) (Ev.pos (by omega) ?_))
    rw [rd_at hlt, drop_at hlt]
    refine Ev.ite (fun h => Ev.succ ?_) (fun h => Ev.succ ?_)
    · simp only [impl_DimsOk.j1]
      refine Ev.pos (by trivial) (Ev.some ?_)
      simp [runOk, h]
    · simp only [impl_DimsOk.j1]
      by_cases h2 : 4096 < l[i]
      · refine Ev.pos (by simpa using h2) (Ev.some ?_)
        simp [runOk, h, h2]
      · have p1 : n * l[i] ≤ 4096 * 4096 := Int.mul_le_mul h1 (by omega) (by omega) (by omega)
        have p0 : 1 * 1 ≤ n * l[i] := Int.mul_le_mul h0 (by omega) (by omega) (by omega)
        refine Ev.neg (by simpa using h2) ?_
        rw [wrap_id (by omega : -9223372036854775808 ≤ n * l[i]) (by omega), up i hlt hn]
        refine Ev.ite (fun h3 => Ev.some ?_) (fun h3 => ?_)
        · simp [runOk, h, h2, show 4096 < n * l[i] from h3]
        · have e : runOk n (l[i] :: l.drop (i + 1)) = runOk (n * l[i]) (l.drop (i + 1)) := by
            simp [runOk, h, h2, show ¬ 4096 < n * l[i] from h3]
          rw [e]
          exact ih (i + 1) _ (by omega) (by omega) (by omega) (by omega)
theorem idims_ev (l : List Int) (hn : l.length ≤ 9223372036854775807) : Ev (fun k => impl_DimsOk.f k l) (dimsB l) := idims_l l hn l.length 0 1 (by omega) (by omega) (by omega) (by omega)
theorem product_l (l : List Int) (hn : l.length ≤ 9223372036854775807) : ∀ (d i : Nat) (n : Int), l.length - i = d → i ≤ l.length → 1 ≤ n → n ≤ 4096 → runOk n (l.drop i) = true → Ev (fun k => impl_product.l0 k n l (l.length : Int) (i : Int)) (n * prod (l.drop i)) := by
  intro d
  induction d with
  | zero =>
    intro i n hd hi h0 h1 hr
    refine Ev.succ ?_
    simp only [impl_product.l0]
    refine Ev.neg (by omega) (Ev.some ?_)
    rw [List.drop_eq_nil_of_le (by omega)]
    simp [prod]
  | succ d ih =>
    intro i n hd hi h0 h1 hr
    have hlt : i < l.length := by omega
    rw [drop_at hlt] at hr ⊢
    obtain ⟨h2, h3, h4, h5⟩ := runOk_cons hr
    have p0 : 1 * 1 ≤ n * l[i] := Int.mul_le_mul h0 h2 (by omega) (by omega)
    refine Ev.succ ?_
    simp only [impl_product.l0]
    refine Ev.pos (by omega) (Ev.pos (by omega) (Ev.pos (by omega) ?_))
    rw [rd_at hlt, up i hlt hn, wrap_id (by omega : -9223372036854775808 ≤ n * l[i]) (by omega)]
    simp only [prod]
    rw [← Int.mul_assoc]
    exact ih (i + 1) _ (by omega) (by omega) (by omega) h4 h5
theorem product_ev (l : List Int) (hn : l.length ≤ 9223372036854775807) (hr : runOk 1 l = true) : Ev (fun k => impl_product.f k l) (prod l) := by
  have := product_l l hn l.length 0 1 (by omega) (by omega) (by omega) (by omega) hr
  rw [Int.one_mul] at this
  exact this
/-! ### tensors that can be -/
def numB (x : Int) : Bool := decide (0 ≤ x) && decide (x < 2147483647)
def tensB (dims data : List Int) : Bool := dimsB dims && (decide ((data.length : Int) = prod dims) && data.all numB)
theorem stens_l (dims l : List Int) (hn : l.length ≤ 9223372036854775807) : ∀ (d i : Nat), l.length - i = d → i ≤ l.length → Ev (fun k => spec_TensorOk.l0 k (i : Int) dims l) ((l.drop i).all numB) := by
  intro d
  induction d with
  | zero =>
    intro i hd hi
    refine Ev.succ ?_
    simp only [spec_TensorOk.l0]
    refine Ev.neg (by omega) (Ev.some ?_)
    rw [List.drop_eq_nil_of_le (by omega)]
    rfl
  | succ d ih =>
    intro i hd hi
    have hlt : i < l.length := by omega
    refine Ev.succ ?_
    simp only [spec_TensorOk.l0]
    refine Ev.pos (by omega) (Ev.pos (by omega) ?_)
    rw [rd_at hlt, drop_at hlt, List.all_cons, up i hlt hn]
    refine Ev.ite (fun h => Ev.some ?_) (fun h => Ev.ite (fun h2 => Ev.some ?_) (fun h2 => ?_))
    · simp [numB, show ¬ (0 ≤ l[i]) by omega]
    · simp [numB, show ¬ (l[i] < 2147483647) by omega]
    · rw [show numB l[i] = true by simp [numB]; omega, Bool.true_and]
      exact ih (i + 1) (by omega) (by omega)
theorem stens_ev (dims l : List Int) (hd : dims.length ≤ 9223372036854775807) (hn : l.length ≤ 9223372036854775807) : Ev (fun k => spec_TensorOk.f k dims l) (tensB dims l) := by
  unfold spec_TensorOk.f tensB
  refine Ev.bind (sdims_ev dims hd) ?_
  cases hb : dimsB dims with
  | false =>
    refine Ev.neg (by simp) (Ev.succ ?_)
    simp only [spec_TensorOk.j0]
    exact Ev.pos (by trivial) (Ev.some rfl)
  | true =>
    have hb' := hb
    unfold dimsB at hb'
    simp only [Bool.and_eq_true, decide_eq_true_eq] at hb'
    have e := size_ev dims hd
    rw [if_pos hb'.2] at e
    refine Ev.pos rfl (Ev.bind e (Ev.succ ?_))
    simp only [spec_TensorOk.j0, Bool.true_and]
    by_cases h : (l.length : Int) = prod dims
    · refine Ev.neg (by simpa using h) ?_
      rw [decide_eq_true h, Bool.true_and]
      exact stens_l dims l hn l.length 0 (by omega) (by omega)
    · refine Ev.pos (by simpa using h) (Ev.some ?_)
      rw [decide_eq_false h]
      rfl
theorem isnum_f (x : Int) : impl_isNum.f x = some (numB x) := by
  unfold impl_isNum.f numB
  split
  · next h => rw [decide_eq_true (show 0 ≤ x by omega), Bool.true_and]
  · next h => rw [decide_eq_false (show ¬ 0 ≤ x by omega), Bool.false_and]
theorem nums_l (l : List Int) (hn : l.length ≤ 9223372036854775807) : ∀ (d i : Nat), l.length - i = d → i ≤ l.length → Ev (fun k => impl_allNums.l0 k l (l.length : Int) (i : Int)) ((l.drop i).all numB) := by
  intro d
  induction d with
  | zero =>
    intro i hd hi
    refine Ev.succ ?_
    simp only [impl_allNums.l0]
    refine Ev.neg (by omega) (Ev.some ?_)
    rw [List.drop_eq_nil_of_le (by omega)]
    rfl
  | succ d ih =>
    intro i hd hi
    have hlt : i < l.length := by omega
    refine Ev.succ ?_
    simp only [impl_allNums.l0]
    refine Ev.pos (by omega) (Ev.pos (by omega) (Ev.pos (by omega) ?_))
    rw [rd_at hlt, drop_at hlt, List.all_cons, up i hlt hn]
    refine Ev.b (isnum_f _) ?_
    cases numB l[i] with
    | false => exact Ev.neg (by simp) (Ev.some rfl)
    | true => exact Ev.pos rfl (ih (i + 1) (by omega) (by omega))
theorem nums_ev (l : List Int) (hn : l.length ≤ 9223372036854775807) : Ev (fun k => impl_allNums.f k l) (l.all numB) := by
  unfold impl_allNums.f
  exact nums_l l hn l.length 0 (by omega) (by omega)
theorem itens_ev (dims l : List Int) (hd : dims.length ≤ 9223372036854775807) (hn : l.length ≤ 9223372036854775807) : Ev (fun k => impl_TensorOk.f k dims l) (tensB dims l) := by
  unfold impl_TensorOk.f tensB
  refine Ev.bind (idims_ev dims hd) ?_
  cases hb : dimsB dims with
  | false => exact Ev.neg (by simp) (Ev.some rfl)
  | true =>
    have hb' := hb
    unfold dimsB at hb'
    simp only [Bool.and_eq_true, decide_eq_true_eq] at hb'
    refine Ev.pos rfl (Ev.bind (product_ev dims hd hb'.2) ?_)
    rw [Bool.true_and]
    refine Ev.ite (fun h => ?_) (fun h => ?_)
    · rw [decide_eq_true h, Bool.true_and]
      exact Ev.bind (nums_ev l hn) (Ev.some rfl)
    · rw [decide_eq_false h]
      exact Ev.some rfl
theorem clone_f (l : List Int) (h : l.length < 17592186044416) : slices_Clone_int_int.f l = some l := by
  unfold slices_Clone_int_int.f
  rw [if_pos h]
theorem l3Ints_f (l : List Int) (h : l.length < 17592186044416) : spec_l3Ints.f l = some l := by
  unfold spec_l3Ints.f
  simp only [Option.bind_some, List.nil_append]
  rw [if_pos (by simp; omega)]
/-! ### draws: whatever the bytes, they come to an end -/
theorem byte_some (l : List Int) (hl : l.length ≤ 9223372036854775807) (i h : Int) (hi : 0 ≤ i) : ∃ x i' h', spec_l1Byte.f l i h = some (x, i', h') ∧ 0 ≤ x ∧ x ≤ 255 ∧ 0 ≤ i' := by
  unfold spec_l1Byte.f
  simp only [and_255]
  by_cases h1 : i < (l.length : Int)
  · rw [if_pos h1, if_pos hi]
    refine ⟨_, _, _, rfl, by omega, by omega, ?_⟩
    rw [wrap_id] <;> omega
  · rw [if_neg h1]
    exact ⟨_, _, _, rfl, by omega, by omega, hi⟩
theorem below_some (l : List Int) (hl : l.length ≤ 9223372036854775807) (i h n : Int) (hi : 0 ≤ i) : ∃ x i' h', spec_l1Below.f l i h n = some (x, i', h') ∧ 0 ≤ x ∧ (0 < n → x < n) ∧ 0 ≤ i' := by
  unfold spec_l1Below.f
  by_cases h0 : n ≤ 0
  · rw [if_pos h0]
    exact ⟨_, _, _, rfl, by omega, by omega, hi⟩
  rw [if_neg h0]
  obtain ⟨x, i1, k1, e1, x1, x2, hi1⟩ := byte_some l hl i h hi
  obtain ⟨y, i2, k2, e2, y1, y2, hi2⟩ := byte_some l hl i1 k1 hi1
  obtain ⟨z, i3, k3, e3, z1, z2, hi3⟩ := byte_some l hl i2 k2 hi2
  obtain ⟨q, i4, k4, e4, q1, q2, hi4⟩ := byte_some l hl i3 k3 hi3
  by_cases h1 : n ≤ 256
  · rw [if_pos h1, e1]
    simp only [Option.bind_some]
    rw [if_neg (by omega)]
    exact ⟨_, _, _, rfl, Int.tmod_nonneg _ x1, fun hn => Int.tmod_lt_of_pos _ hn, hi1⟩
  · rw [if_neg h1, e1]
    simp only [Option.bind_some, e2, e3, e4]
    rw [if_neg (by omega)]
    refine ⟨_, _, _, rfl, Int.tmod_nonneg _ ?_, fun hn => Int.tmod_lt_of_pos _ hn, hi4⟩
    unfold wrap64
    omega
theorem once_some (l : List Int) (hl : l.length ≤ 9223372036854775807) (i h n : Int) (hi : 0 ≤ i) : ∃ b i' h', spec_l1Once.f l i h n = some (b, i', h') ∧ 0 ≤ i' := by
  obtain ⟨x, i1, k1, e1, _, _, hi1⟩ := below_some l hl i h n hi
  unfold spec_l1Once.f
  rw [e1]
  exact ⟨_, _, _, rfl, hi1⟩
theorem pick_some (l : List Int) (hl : l.length ≤ 9223372036854775807) (i h : Int) (list : List Int) (hi : 0 ≤ i) (hn : 0 < list.length) : ∃ x i' h', spec_l1PickInt.f l i h list = some (x, i', h') ∧ 0 ≤ i' := by
  obtain ⟨x, i1, k1, e1, x0, x1, hi1⟩ := below_some l hl i h (list.length : Int) hi
  unfold spec_l1PickInt.f
  rw [e1]
  simp only [Option.bind_some]
  rw [if_pos x0, if_pos (x1 (by omega))]
  exact ⟨_, _, _, rfl, hi1⟩
theorem new_l (l : List Int) (hl : l.length ≤ 9223372036854775807) : ∀ (d i : Nat) (h : Int), l.length - i = d → i ≤ l.length → ∃ h', Ev (fun k => spec_l1New.l0 k l h (i : Int)) (l, 0, h') := by
  intro d
  induction d with
  | zero =>
    intro i h hd hi
    exact ⟨h, Ev.succ (by simp only [spec_l1New.l0]; exact Ev.neg (by omega) (Ev.some rfl))⟩
  | succ d ih =>
    intro i h hd hi
    obtain ⟨h', e⟩ := ih (i + 1) (Go.bits .and .i64 (wrap64 ((wrap64 ((wrap64 (h * 131)) + (wrap64 (rd l (i : Int))))) + 7)) 1073741823) (by omega) (by omega)
    by_cases h4 : (i : Int) < 4000
    · refine ⟨h', Ev.succ ?_⟩
      simp only [spec_l1New.l0]
      refine Ev.pos (by omega) (Ev.pos h4 (Ev.pos (by omega) ?_))
      rw [up i (by omega : i < l.length) hl]
      exact e
    · refine ⟨h, Ev.succ ?_⟩
      simp only [spec_l1New.l0]
      exact Ev.pos (by omega) (Ev.neg h4 (Ev.some rfl))
theorem new_ev (l : List Int) (hl : l.length ≤ 9223372036854775807) : ∃ h', Ev (fun k => spec_l1New.f k l) (l, 0, h') := new_l l hl l.length 0 _ (by omega) (by omega)
/-! ### which expert a row goes tv -/
theorem signed_f (x : Int) : ∃ v, spec_Signed.f x = some v ∧ impl_Signed.f x = some v := by
  unfold spec_Signed.f impl_Signed.f spec_Mod.f impl_Mod.f
  split <;> simp only [Option.bind_some] <;> split <;> exact ⟨_, rfl, rfl⟩
theorem within_f (a b c : Int) : impl_within.f a b c = some (decide (b ≤ a) && decide (a ≤ c)) := by
  unfold impl_within.f
  split
  · next h => rw [decide_eq_true (show b ≤ a by omega), Bool.true_and]
  · next h => rw [decide_eq_false (show ¬ b ≤ a by omega), Bool.false_and]
theorem l5In_f (a b c : Int) : spec_l5In.f a b c = some (decide (b ≤ a) && decide (a ≤ c)) := within_f a b c
def sg (x : Int) : Int := (spec_Signed.f x).getD 0
theorem sg_s (x : Int) : spec_Signed.f x = some (sg x) := by
  obtain ⟨v, h, _⟩ := signed_f x
  unfold sg
  rw [h]
  rfl
theorem sg_i (x : Int) : impl_Signed.f x = some (sg x) := by
  obtain ⟨v, h, h2⟩ := signed_f x
  unfold sg
  rw [h, h2]
  rfl
/-- How often e stands there. -/
def cnt : List Int → Int → Int
  | [], _ => 0
  | x :: xs, e => (if x = e then 1 else 0) + cnt xs e
theorem cnt_le : ∀ (l : List Int) (e : Int), 0 ≤ cnt l e ∧ cnt l e ≤ l.length
  | [], _ => ⟨Int.le_refl _, Int.le_refl _⟩
  | x :: xs, e => by
    have := cnt_le xs e
    simp only [cnt, List.length_cons]
    split <;> omega
theorem cnt_app : ∀ (l : List Int) (b e : Int), cnt (l ++ [b]) e = cnt l e + (if b = e then 1 else 0)
  | [], b, e => by simp [cnt]
  | x :: xs, b, e => by
    simp only [List.cons_append, cnt, cnt_app xs b e]
    omega
def pick (tv row : List Int) (most : Int) : Nat → Nat → Int → Int
  | 0, _, b => b
  | d + 1, j, b => pick tv row most d (j + 1) (if cnt tv (j : Int) < most then (if b < 0 then (j : Int) else if sg (rd row (j : Int)) > sg (rd row b) then (j : Int) else b) else b)
def atOf (tv : List Int) (b : Int) : Int := if b < 0 then -1 else cnt tv b
def rowOf (data : List Int) (E t : Nat) : List Int := (data.take ((t + 1) * E)).drop (t * E)
def goes (data : List Int) (E : Nat) (most : Int) : Nat → Nat → List Int → List Int → List Int × List Int
  | 0, _, tv, pl => (tv, pl)
  | d + 1, t, tv, pl => goes data E most d (t + 1) (tv ++ [pick tv (rowOf data E t) most E 0 (-1)]) (pl ++ [atOf tv (pick tv (rowOf data E t) most E 0 (-1))])
theorem goes_len (data : List Int) (E : Nat) (most : Int) : ∀ (d t : Nat) (tv pl : List Int), (goes data E most d t tv pl).1.length = tv.length + d ∧ (goes data E most d t tv pl).2.length = pl.length + d
  | 0, _, _, _ => ⟨rfl, rfl⟩
  | d + 1, t, tv, pl => by
    have := goes_len data E most d (t + 1) (tv ++ [pick tv (rowOf data E t) most E 0 (-1)]) (pl ++ [atOf tv (pick tv (rowOf data E t) most E 0 (-1))])
    simp only [goes, List.length_append, List.length_singleton] at this ⊢
    omega
theorem row_len {data : List Int} {E t : Nat} (h : (t + 1) * E ≤ data.length) : (rowOf data E t).length = E := by
  unfold rowOf
  rw [List.length_drop, List.length_take, Nat.min_eq_left h, Nat.succ_mul]
  omega
theorem l5row_f (dims data : List Int) (t : Int) (E p : Nat) (hl : dims.length = 2) (r1 : rd dims 1 = (E : Int)) (hw : wrap64 (t * (E : Int)) = (p : Int)) (h : p + E ≤ data.length) (hb : data.length ≤ 1048576) : spec_l5Row.f dims data t = some ((data.take (p + E)).drop p) := by
  unfold spec_l5Row.f
  have hw2 : wrap64 ((p : Int) + (E : Int)) = ((p + E : Nat) : Int) := by rw [wrap_id] <;> omega
  rw [r1, hw, hw2, Int.toNat_natCast, Int.toNat_natCast]
  rw [if_pos (show (1 : Int) < (dims.length : Int) by omega), if_pos (show (0 : Int) ≤ (p : Int) by omega), if_pos (show (p : Int) ≤ ((p + E : Nat) : Int) by omega), if_pos (show ((p + E : Nat) : Int) ≤ (data.length : Int) by omega)]
attribute [irreducible] rowOf
/-! the reference -/
theorem s_l2 (most : Int) (tv pl row dims data : List Int) (b a : Int) (j : Nat) (hj : j < row.length) (hr : row.length ≤ 4096) (ht : tv.length ≤ 4096) (hb : b < row.length) (v : List Int × List Int)
    (hc : Ev (fun k => spec_Route.l1 k most tv pl (tv.length : Int) row (if cnt tv (j : Int) < most then (if b < 0 then (j : Int) else if sg (rd row (j : Int)) > sg (rd row b) then (j : Int) else b) else b) (if cnt tv (j : Int) < most then (if b < 0 then cnt tv (j : Int) else if sg (rd row (j : Int)) > sg (rd row b) then cnt tv (j : Int) else a) else a) (wrap64 ((j : Int) + 1)) dims data) v) :
    ∀ (d i : Nat) (n : Int), tv.length - i = d → i ≤ tv.length → n + cnt (tv.drop i) (j : Int) = cnt tv (j : Int) → 0 ≤ n → n ≤ i → Ev (fun k => spec_Route.l2 k most tv pl (tv.length : Int) row b a (j : Int) n (i : Int) dims data) v := by
  intro d
  induction d with
  | zero =>
    intro i n hd hi hn h0 h1
    rw [List.drop_eq_nil_of_le (by omega)] at hn
    have hn : n = cnt tv (j : Int) := by simpa [cnt] using hn
    subst hn
    refine Ev.succ ?_
    simp only [spec_Route.l2]
    refine Ev.neg (by omega) (Ev.ite (fun h => ?_) (fun h => ?_))
    · rw [if_pos h, if_pos h] at hc
      refine Ev.ite (fun h2 => ?_) (fun h2 => ?_)
      · rw [if_pos h2, if_pos h2] at hc
        refine Ev.succ ?_
        simp only [spec_Route.j4]
        exact Ev.pos (by trivial) hc
      · rw [if_neg h2, if_neg h2] at hc
        refine Ev.pos (by omega) (Ev.pos (by omega) (Ev.b (sg_s _) (Ev.pos (by omega) (Ev.pos (by omega) (Ev.b (sg_s _) (Ev.succ ?_))))))
        simp only [spec_Route.j4]
        refine Ev.ite (fun h3 => ?_) (fun h3 => ?_)
        · rw [decide_eq_true_eq] at h3
          rw [if_pos h3, if_pos h3] at hc
          exact hc
        · rw [decide_eq_true_eq] at h3
          rw [if_neg h3, if_neg h3] at hc
          exact hc
    · rw [if_neg h, if_neg h] at hc
      refine Ev.succ ?_
      simp only [spec_Route.j4]
      exact Ev.neg (by simp) hc
  | succ d ih =>
    intro i n hd hi hn h0 h1
    have hlt : i < tv.length := by omega
    rw [drop_at hlt] at hn
    simp only [cnt] at hn
    refine Ev.succ ?_
    simp only [spec_Route.l2]
    refine Ev.pos (by omega) (Ev.pos (by omega) (Ev.pos (by omega) ?_))
    rw [rd_at hlt, up i hlt (by omega)]
    refine Ev.ite (fun h => ?_) (fun h => ?_)
    · rw [if_pos h] at hn
      rw [wrap_id (by omega) (by omega)]
      exact ih (i + 1) (n + 1) (by omega) (by omega) (by omega) (by omega) (by omega)
    · rw [if_neg h] at hn
      exact ih (i + 1) n (by omega) (by omega) (by omega) (by omega) (by omega)
theorem pick_step {tv row : List Int} {most b : Int} {j : Nat} :
    atOf tv (if cnt tv (j : Int) < most then (if b < 0 then (j : Int) else if sg (rd row (j : Int)) > sg (rd row b) then (j : Int) else b) else b) = (if cnt tv (j : Int) < most then (if b < 0 then cnt tv (j : Int) else if sg (rd row (j : Int)) > sg (rd row b) then cnt tv (j : Int) else atOf tv b) else atOf tv b) := by
  have e : atOf tv (j : Int) = cnt tv (j : Int) := by
    unfold atOf
    rw [if_neg (by omega)]
  repeat' split
  all_goals first | rfl | exact e
theorem s_l1 (most : Int) (tv pl row dims data : List Int) (hr : row.length ≤ 4096) (ht : tv.length ≤ 4096) (hp : pl.length ≤ 4096) (V : Int → List Int × List Int)
    (hc : ∀ b, Ev (fun k => spec_Route.l0 k most (tv ++ [b]) (pl ++ [atOf tv b]) (wrap64 ((tv.length : Int) + 1)) dims data) (V b)) :
    ∀ (d j : Nat) (b : Int), row.length - j = d → j ≤ row.length → b < row.length → Ev (fun k => spec_Route.l1 k most tv pl (tv.length : Int) row b (atOf tv b) (j : Int) dims data) (V (pick tv row most d j b)) := by
  intro d
  induction d with
  | zero =>
    intro j b hd hj hb
    refine Ev.succ ?_
    simp only [spec_Route.l1, pick]
    exact Ev.neg (by omega) (Ev.pos (by omega) (Ev.pos (by omega) (hc b)))
  | succ d ih =>
    intro j b hd hj hb
    have hlt : j < row.length := by omega
    refine Ev.succ ?_
    simp only [spec_Route.l1, pick]
    refine Ev.pos (by omega) ?_
    refine s_l2 most tv pl row dims data b (atOf tv b) j hlt hr ht hb _ ?_ tv.length 0 0 (by omega) (by omega) (by simp) (by omega) (by omega)
    rw [← pick_step, up j hlt (by omega)]
    exact ih (j + 1) _ (by omega) (by omega) (by repeat' split
                                                 all_goals omega)
theorem mul_le_of {t T E : Nat} (h : t < T) : (t + 1) * E ≤ T * E := Nat.mul_le_mul_right E h
theorem s_l0 (most : Int) (dims data : List Int) (T E : Nat) (hd : dims = [(T : Int), (E : Int)]) (hx : data.length = T * E) (hT : T ≤ 4096) (hE : E ≤ 4096) (hTE : T * E ≤ 4096) (hE1 : 1 ≤ E) :
    ∀ (d t : Nat) (tv pl : List Int), T - t = d → t ≤ T → tv.length = t → pl.length = t → Ev (fun k => spec_Route.l0 k most tv pl (t : Int) dims data) (goes data E most d t tv pl) := by
  have r0 : rd dims 0 = (T : Int) := by rw [hd]; rfl
  have r1 : rd dims 1 = (E : Int) := by rw [hd]; rfl
  have hl : dims.length = 2 := by rw [hd]; rfl
  intro d
  induction d with
  | zero =>
    intro t tv pl hd ht h1 h2
    refine Ev.succ ?_
    simp only [spec_Route.l0, goes]
    refine Ev.pos (by omega) ?_
    rw [r0]
    exact Ev.neg (by omega) (Ev.some rfl)
  | succ d ih =>
    intro t tv pl hd ht h1 h2
    have hlt : t < T := by omega
    have hneg : (-1 : Int) < (E : Int) := by omega
    have hA : (t : Int) < (T : Int) := by omega
    have hm := mul_le_of (E := E) hlt
    have hB0 : (0 : Int) ≤ ((t * E : Nat) : Int) := Int.natCast_nonneg _
    have hB1 : ((t * E : Nat) : Int) ≤ (((t + 1) * E : Nat) : Int) := Int.ofNat_le.2 (Nat.mul_le_mul_right E (Nat.le_succ t))
    have hB2 : (((t + 1) * E : Nat) : Int) ≤ (data.length : Int) := Int.ofNat_le.2 (by rw [hx]; exact hm)
    have hm' : (t + 1) * E = t * E + E := Nat.succ_mul t E
    have ht' : t * E ≤ 4096 := by omega
    have hw : wrap64 ((t : Int) * (E : Int)) = ((t * E : Nat) : Int) := by
      rw [← Int.natCast_mul, wrap_id] <;> omega
    have er : spec_l5Row.f dims data (t : Int) = some (rowOf data E t) := by
      have := l5row_f dims data (t : Int) E (t * E) hl r1 hw (by omega) (by omega)
      rw [← hm'] at this
      unfold rowOf
      exact this
    have hrl : (rowOf data E t).length = E := row_len (by rw [hx]; exact hm)
    refine Ev.succ ?_
    simp only [spec_Route.l0, goes]
    refine Ev.pos (by omega) ?_
    rw [r0]
    refine Ev.pos (by omega) (Ev.b er ?_)
    have := s_l1 most tv pl (rowOf data E t) dims data (by rw [hrl]; exact hE) (by omega) (by omega) (fun b => goes data E most d (t + 1) (tv ++ [b]) (pl ++ [atOf tv b])) (fun b => by
      rw [h1, up t hlt (by omega)]
      exact ih (t + 1) _ _ (by omega) (by omega) (by simp [h1]) (by simp [h2])) E 0 (-1) (by rw [hrl]; rfl) (Nat.zero_le _) (by rw [hrl]; exact hneg)
    rw [h1] at this
    exact this
/-! the program -/
theorem set_cnt {tv full : List Int} {E : Nat} {b : Int} (hb0 : 0 ≤ b) (hb1 : b < (E : Int)) (hl : full.length = E) (hf : ∀ j : Nat, j < E → rd full (j : Int) = cnt tv (j : Int)) (w : Int) (hw : w = cnt tv b + 1) :
    ∀ j : Nat, j < E → rd (full.set b.toNat w) (j : Int) = cnt (tv ++ [b]) (j : Int) := by
  intro j hj
  rw [cnt_app, rd_at (by simp; omega), List.getElem_set]
  split
  · next h => rw [if_pos (by omega), hw, show b = (j : Int) by omega]
  · next h => rw [if_neg (by omega), Int.add_zero, ← hf j hj, rd_at (by omega)]
theorem i_l1 (most : Int) (tv pl full row dims data : List Int) (T E t : Nat) (hT : T ≤ 4096) (hE : row.length = E) (hfl : full.length = E) (hE4 : E ≤ 4096) (ht : tv.length ≤ 4096) (hp : pl.length ≤ 4096) (hf : ∀ j : Nat, j < E → rd full (j : Int) = cnt tv (j : Int)) (V : Int → List Int × List Int)
    (hc : ∀ b full', full'.length = E → (∀ j : Nat, j < E → rd full' (j : Int) = cnt (tv ++ [b]) (j : Int)) → Ev (fun k => impl_Route.l0 k most (tv ++ [b]) (pl ++ [atOf tv b]) (E : Int) full' (T : Int) (wrap64 ((t : Int) + 1)) dims data) (V b)) :
    ∀ (d j : Nat) (b : Int), E - j = d → j ≤ E → -1 ≤ b → b < E → Ev (fun k => impl_Route.l1 k most tv pl (E : Int) full b row (T : Int) (t : Int) row (E : Int) (j : Int) dims data) (V (pick tv row most d j b)) := by
  intro d
  induction d with
  | zero =>
    intro j b hd hj hb0 hb
    refine Ev.succ ?_
    simp only [impl_Route.l1, pick]
    refine Ev.neg (by omega) (Ev.ite (fun h => ?_) (fun h => ?_))
    · have hfb := hf b.toNat (by omega)
      rw [Int.toNat_of_nonneg h] at hfb
      have hcb := cnt_le tv b
      refine Ev.pos (by omega) (Ev.pos (by omega) (Ev.pos (by omega) (Ev.pos (by omega) ?_)))
      rw [hfb, wrap_id (by omega : -9223372036854775808 ≤ cnt tv b + 1) (by omega)]
      have e := hc b (full.set b.toNat (cnt tv b + 1)) (by simp [hfl]) (set_cnt h hb hfl hf _ rfl)
      rw [show atOf tv b = cnt tv b by unfold atOf; rw [if_neg (by omega)]] at e
      exact e
    · have e := hc b full hfl (fun j hj => by rw [cnt_app, if_neg (by omega), Int.add_zero]; exact hf j hj)
      rw [show atOf tv b = -1 by unfold atOf; rw [if_pos (by omega)]] at e
      exact Ev.pos (by omega) (Ev.pos (by omega) e)
  | succ d ih =>
    intro j b hd hj hb0 hb
    have hlt : j < E := by omega
    refine Ev.succ ?_
    simp only [impl_Route.l1, pick]
    refine Ev.pos (by omega) (Ev.pos (by omega) (Ev.pos (by omega) (Ev.pos (by omega) ?_)))
    rw [hf j hlt]
    refine Ev.ite (fun h => ?_) (fun h => ?_)
    · rw [if_pos h]
      refine Ev.ite (fun h2 => ?_) (fun h2 => ?_)
      · rw [if_pos h2]
        refine Ev.succ ?_
        simp only [impl_Route.j3]
        rw [up j hlt (by omega)]
        exact Ev.pos (by trivial) (ih (j + 1) _ (by omega) (by omega) (by omega) (by omega))
      · rw [if_neg h2]
        refine Ev.b (sg_i _) (Ev.pos (by omega) (Ev.pos (by omega) (Ev.b (sg_i _) (Ev.succ ?_))))
        simp only [impl_Route.j3]
        rw [up j hlt (by omega)]
        refine Ev.ite (fun h3 => ?_) (fun h3 => ?_)
        · rw [decide_eq_true_eq] at h3
          rw [if_pos h3]
          exact ih (j + 1) _ (by omega) (by omega) (by omega) (by omega)
        · rw [decide_eq_true_eq] at h3
          rw [if_neg h3]
          exact ih (j + 1) _ (by omega) (by omega) (by omega) (by omega)
    · rw [if_neg h]
      refine Ev.succ ?_
      simp only [impl_Route.j3]
      rw [up j hlt (by omega)]
      exact Ev.neg (by simp) (ih (j + 1) _ (by omega) (by omega) (by omega) (by omega))
theorem i_l0 (most : Int) (dims data : List Int) (T E : Nat) (hx : data.length = T * E) (hT : T ≤ 4096) (hE : E ≤ 4096) (hTE : T * E ≤ 4096) :
    ∀ (d t : Nat) (tv pl full : List Int), T - t = d → t ≤ T → tv.length = t → pl.length = t → full.length = E → (∀ j : Nat, j < E → rd full (j : Int) = cnt tv (j : Int)) → Ev (fun k => impl_Route.l0 k most tv pl (E : Int) full (T : Int) (t : Int) dims data) (goes data E most d t tv pl) := by
  intro d
  induction d with
  | zero =>
    intro t tv pl full hd ht h1 h2 h3 h4
    refine Ev.succ ?_
    simp only [impl_Route.l0, goes]
    exact Ev.neg (by omega) (Ev.some rfl)
  | succ d ih =>
    intro t tv pl full hd ht h1 h2 h3 h4
    have hlt : t < T := by omega
    have hneg : (-1 : Int) < (E : Int) := by omega
    have hA : (t : Int) < (T : Int) := by omega
    have hm := mul_le_of (E := E) hlt
    have hB0 : (0 : Int) ≤ ((t * E : Nat) : Int) := Int.natCast_nonneg _
    have hB1 : ((t * E : Nat) : Int) ≤ (((t + 1) * E : Nat) : Int) := Int.ofNat_le.2 (Nat.mul_le_mul_right E (Nat.le_succ t))
    have hB2 : (((t + 1) * E : Nat) : Int) ≤ (data.length : Int) := Int.ofNat_le.2 (by rw [hx]; exact hm)
    have hm' : (t + 1) * E = t * E + E := Nat.succ_mul t E
    have ht' : t * E ≤ 4096 := by omega
    have hw : wrap64 ((t : Int) * (E : Int)) = ((t * E : Nat) : Int) := by
      rw [← Int.natCast_mul, wrap_id] <;> omega
    have hw2 : wrap64 (((t + 1 : Nat) : Int) * (E : Int)) = (((t + 1) * E : Nat) : Int) := by
      rw [← Int.natCast_mul, wrap_id] <;> omega
    have hrl : (rowOf data E t).length = E := row_len (by rw [hx]; exact hm)
    refine Ev.succ ?_
    simp only [impl_Route.l0, goes]
    rw [up t hlt (by omega), hw, hw2, Int.toNat_natCast, Int.toNat_natCast]
    refine Ev.pos hA (Ev.pos hB0 (Ev.pos hB1 (Ev.pos hB2 ?_)))
    have := i_l1 most tv pl full (rowOf data E t) dims data T E t hT hrl h3 hE (by omega) (by omega) h4 (fun b => goes data E most d (t + 1) (tv ++ [b]) (pl ++ [atOf tv b])) (fun b full' hl' hf' => by
      rw [up t hlt (by omega)]
      exact ih (t + 1) _ _ full' (by omega) (by omega) (by simp [h1]) (by simp [h2]) hl' hf') E 0 (-1) rfl (Nat.zero_le _) (Int.le_refl _) hneg
    have eR : (data.take ((t + 1) * E)).drop (t * E) = rowOf data E t := by unfold rowOf; rfl
    rw [eR, hrl]
    exact this
theorem two_of {l : List Int} (h : (l.length : Int) = 2) : ∃ a b, l = [a, b] := by
  match l, h with
  | [a, b], _ => exact ⟨a, b, rfl⟩
  | [], h => simp at h
  | [_], h => simp at h
  | _ :: _ :: _ :: _, h => simp at h; omega
def Told (dims data : List Int) (most : Int) (a b : List Int) : Prop := (a = [] ∧ b = [] ∧ ¬ (tensB dims data = true ∧ (dims.length : Int) = 2 ∧ (decide ((1 : Int) ≤ most) && decide (most ≤ 4096)) = true)) ∨ ∃ T E : Nat, dims = [(T : Int), (E : Int)] ∧ T ≤ 4096 ∧ E ≤ 4096 ∧ 1 ≤ T ∧ (a, b) = goes data E most T 0 [] []
theorem route_told (dims data : List Int) (most : Int) (h1 : dims.length ≤ 1048576) (h2 : data.length ≤ 1048576) : ∃ a b, Ev (fun k => spec_Route.f k dims data most) (a, b) ∧ Ev (fun k => impl_Route.f k dims data most) (a, b) ∧ Told dims data most a b := by
  have s0 : ∀ x6 x7, Ev (fun k => spec_Route.j0 k most x6 x7 true dims data) (x6, x7) := by
    intro x6 x7
    refine Ev.succ ?_
    simp only [spec_Route.j0]
    exact Ev.pos (by trivial) (Ev.some rfl)
  have i0 : Ev (fun k => impl_Route.j0 k most true dims data) ([], []) := by
    refine Ev.succ ?_
    simp only [impl_Route.j0]
    exact Ev.pos (by trivial) (Ev.some rfl)
  have ts := stens_ev dims data (by omega) (by omega)
  have ti := itens_ev dims data (by omega) (by omega)
  unfold spec_Route.f impl_Route.f
  cases hb : tensB dims data with
  | false =>
    rw [hb] at ts ti
    exact ⟨[], [], Ev.b rfl (Ev.b rfl (Ev.bind ts (Ev.neg (by simp) (s0 _ _)))), Ev.bind ti (Ev.neg (by simp) i0), .inl ⟨rfl, rfl, by simp_all⟩⟩
  | true =>
    rw [hb] at ts ti
    by_cases hl : (dims.length : Int) = 2
    · cases hw : (decide ((1 : Int) ≤ most) && decide (most ≤ 4096)) with
      | false =>
        have e1 := l5In_f most 1 4096
        have e2 := within_f most 1 4096
        rw [hw] at e1 e2
        exact ⟨[], [], Ev.b rfl (Ev.b rfl (Ev.bind ts (Ev.pos rfl (Ev.pos hl (Ev.b e1 (s0 _ _)))))), Ev.bind ti (Ev.pos rfl (Ev.pos hl (Ev.b e2 i0))), .inl ⟨rfl, rfl, by simp_all⟩⟩
      | true =>
        have e1 := l5In_f most 1 4096
        have e2 := within_f most 1 4096
        rw [hw] at e1 e2
        obtain ⟨a, b, hd⟩ := two_of hl
        unfold tensB dimsB at hb
        simp only [Bool.and_eq_true, decide_eq_true_eq] at hb
        have hall := run_all hb.1.2
        have ha := hall a (by rw [hd]; simp)
        have hbb := hall b (by rw [hd]; simp)
        have hp := prod_le hb.1.2 0
        rw [List.drop_zero] at hp
        obtain ⟨T, rfl⟩ := Int.eq_ofNat_of_zero_le (show 0 ≤ a by omega)
        obtain ⟨E, rfl⟩ := Int.eq_ofNat_of_zero_le (show 0 ≤ b by omega)
        have hpe : prod dims = ((T * E : Nat) : Int) := by
          rw [hd]
          simp only [prod]
          rw [Int.mul_one, Int.natCast_mul]
        have hx : data.length = T * E := by omega
        have hTE : T * E ≤ 4096 := by omega
        have L := goes_len data E most T 0 [] []
        refine ⟨(goes data E most T 0 [] []).1, (goes data E most T 0 [] []).2, Ev.b rfl (Ev.b rfl (Ev.bind ts (Ev.pos rfl (Ev.pos hl (Ev.b e1 (Ev.succ ?_)))))), Ev.bind ti (Ev.pos rfl (Ev.pos hl (Ev.b e2 (Ev.succ ?_)))), .inr ⟨T, E, hd, by omega, by omega, by omega, rfl⟩⟩
        · simp only [spec_Route.j0]
          exact Ev.neg (by simp) (s_l0 most dims data T E hd hx (by omega) (by omega) hTE (by omega) T 0 [] [] (by omega) (by omega) rfl rfl)
        · simp only [impl_Route.j0]
          have r0 : rd dims 0 = (T : Int) := by rw [hd]; rfl
          have r1 : rd dims 1 = (E : Int) := by rw [hd]; rfl
          rw [r0, r1]
          refine Ev.neg (by simp) (Ev.pos (by omega) (Ev.pos (by omega) (Ev.pos (by omega) (Ev.pos (by omega) ?_))))
          refine i_l0 most dims data T E hx (by omega) (by omega) hTE T 0 [] [] _ (by omega) (by omega) rfl rfl (by simp) (fun j hj => ?_)
          rw [rd_at (by simp; omega), List.getElem_replicate]
          rfl
    · exact ⟨[], [], Ev.b rfl (Ev.b rfl (Ev.bind ts (Ev.pos rfl (Ev.neg hl (s0 _ _))))), Ev.bind ti (Ev.pos rfl (Ev.neg hl i0)), .inl ⟨rfl, rfl, by simp_all⟩⟩

/-! ### what the law asks of a route -/
theorem pick_spec (tv row : List Int) (most : Int) : ∀ (d j : Nat) (b : Int), b < 0 ∨ (0 ≤ b ∧ b < (j : Int) ∧ cnt tv b < most) →
    (pick tv row most d j b < 0 ∧ b < 0 ∧ ∀ i : Nat, j ≤ i → i < j + d → ¬ cnt tv (i : Int) < most) ∨ (0 ≤ pick tv row most d j b ∧ pick tv row most d j b < ((j + d : Nat) : Int) ∧ cnt tv (pick tv row most d j b) < most)
  | 0, j, b, h => by
    simp only [pick]
    rcases h with h | ⟨h0, h1, h2⟩
    · exact .inl ⟨h, h, fun i hi hj => by omega⟩
    · exact .inr ⟨h0, by omega, h2⟩
  | d + 1, j, b, h => by
    simp only [pick]
    have e : j + (d + 1) = j + 1 + d := by omega
    rw [e]
    by_cases hc : cnt tv (j : Int) < most
    · rw [if_pos hc]
      have hn : ∀ b' : Int, b' = (j : Int) ∨ b' = b → 0 ≤ b' → cnt tv b' < most ∧ b' < ((j + 1 : Nat) : Int) := by
        intro b' hb h0
        rcases hb with rfl | rfl
        · exact ⟨hc, by omega⟩
        · rcases h with h | ⟨g0, g1, g2⟩
          · omega
          · exact ⟨g2, by omega⟩
      have key : ∀ b' : Int, b' = (j : Int) ∨ b' = b → 0 ≤ b' → (pick tv row most d (j + 1) b' < 0 ∧ b < 0 ∧ ∀ i : Nat, j ≤ i → i < j + 1 + d → ¬ cnt tv (i : Int) < most) ∨ (0 ≤ pick tv row most d (j + 1) b' ∧ pick tv row most d (j + 1) b' < ((j + 1 + d : Nat) : Int) ∧ cnt tv (pick tv row most d (j + 1) b') < most) := by
        intro b' hb h0
        obtain ⟨n1, n2⟩ := hn b' hb h0
        rcases pick_spec tv row most d (j + 1) b' (.inr ⟨h0, n2, n1⟩) with ⟨_, q2, _⟩ | q
        · omega
        · exact .inr q
      by_cases hb : b < 0
      · rw [if_pos hb]
        exact key _ (.inl rfl) (by omega)
      · rw [if_neg hb]
        split
        · exact key _ (.inl rfl) (by omega)
        · exact key _ (.inr rfl) (by omega)
    · rw [if_neg hc]
      rcases pick_spec tv row most d (j + 1) b (by
        rcases h with h | ⟨g0, g1, g2⟩
        · exact .inl h
        · exact .inr ⟨g0, by omega, g2⟩) with ⟨q1, q2, q3⟩ | q
      · refine .inl ⟨q1, q2, fun i hi hj => ?_⟩
        by_cases ei : i = j
        · rw [ei]; exact hc
        · exact q3 i (by omega) hj
      · exact .inr q
theorem goes_prefix (data : List Int) (E : Nat) (most : Int) : ∀ (d t : Nat) (tv pl : List Int), (goes data E most d t tv pl).1.take tv.length = tv ∧ (goes data E most d t tv pl).2.take pl.length = pl
  | 0, _, tv, pl => by simp [goes]
  | d + 1, t, tv, pl => by
    obtain ⟨i1, i2⟩ := goes_prefix data E most d (t + 1) (tv ++ [pick tv (rowOf data E t) most E 0 (-1)]) (pl ++ [atOf tv (pick tv (rowOf data E t) most E 0 (-1))])
    simp only [goes]
    generalize goes data E most d (t + 1) (tv ++ [pick tv (rowOf data E t) most E 0 (-1)]) (pl ++ [atOf tv (pick tv (rowOf data E t) most E 0 (-1))]) = g at i1 i2 ⊢
    constructor
    · have := congrArg (List.take tv.length) i1
      rw [List.take_take, List.length_append, Nat.min_eq_left (by omega), List.take_append_of_le_length (Nat.le_refl _), List.take_length] at this
      exact this
    · have := congrArg (List.take pl.length) i2
      rw [List.take_take, List.length_append, Nat.min_eq_left (by omega), List.take_append_of_le_length (Nat.le_refl _), List.take_length] at this
      exact this
theorem at_next {l tv : List Int} {b : Int} (h : l.take (tv ++ [b]).length = tv ++ [b]) : rd l (tv.length : Int) = b := by
  have hl : tv.length < l.length := by
    have := congrArg List.length h
    rw [List.length_take, List.length_append, List.length_singleton] at this
    omega
  rw [rd_at hl]
  have h2 : (l.take (tv ++ [b]).length)[tv.length]'(by rw [h]; simp) = b := by
    simp only [h]
    simp
  rw [List.getElem_take] at h2
  exact h2
theorem law_l1 (most : Int) (tos pl full dims data : List Int) (E t : Nat) (hE : E ≤ 4096) (hfl : full.length = E) (ht : t < pl.length) (hp : rd pl (t : Int) = -1) (hf : ∀ j : Nat, j < E → ¬ rd full (j : Int) < most)
    (h : Ev (fun k => laws_FnRouted.l0 k most tos pl (E : Int) full (wrap64 ((t : Int) + 1)) dims data) true) :
    ∀ (d j : Nat), E - j = d → j ≤ E → Ev (fun k => laws_FnRouted.l1 k most tos pl (E : Int) full (t : Int) (j : Int) dims data) true := by
  intro d
  induction d with
  | zero =>
    intro j hd hj
    refine Ev.succ ?_
    simp only [laws_FnRouted.l1]
    exact Ev.neg (by omega) (Ev.pos (by omega) (Ev.pos (by omega) (Ev.pos hp h)))
  | succ d ih =>
    intro j hd hj
    refine Ev.succ ?_
    simp only [laws_FnRouted.l1]
    rw [up j (by omega : j < E) (by omega)]
    exact Ev.pos (by omega) (Ev.pos (by omega) (Ev.pos (by omega) (Ev.neg (hf j (by omega)) (ih (j + 1) (by omega) (by omega)))))
theorem law_l0 (most : Int) (dims data tos pl : List Int) (T E : Nat) (hd : dims = [(T : Int), (E : Int)]) (hT : T ≤ 4096) (hE : E ≤ 4096) :
    ∀ (d t : Nat) (tv pv full : List Int), T - t = d → t ≤ T → tv.length = t → pv.length = t → full.length = E → (∀ j : Nat, j < E → rd full (j : Int) = cnt tv (j : Int)) → (tos, pl) = goes data E most d t tv pv →
      Ev (fun k => laws_FnRouted.l0 k most tos pl (E : Int) full (t : Int) dims data) true := by
  intro d
  induction d with
  | zero =>
    intro t tv pv full hd' ht h1 h2 h3 h4 hg
    simp only [goes, Prod.mk.injEq] at hg
    obtain ⟨rfl, rfl⟩ := hg
    refine Ev.succ ?_
    simp only [laws_FnRouted.l0]
    have r0 : rd dims 0 = (T : Int) := by rw [hd]; rfl
    rw [r0]
    refine Ev.neg (by omega) (Ev.pos (by rw [hd]; simp) (Ev.pos (by omega) (Ev.some ?_)))
    rw [beq_iff_eq]
    omega
  | succ d ih =>
    intro t tv pv full hd' ht h1 h2 h3 h4 hg
    have L := goes_len data E most (d + 1) t tv pv
    have Pf := goes_prefix data E most d (t + 1) (tv ++ [pick tv (rowOf data E t) most E 0 (-1)]) (pv ++ [atOf tv (pick tv (rowOf data E t) most E 0 (-1))])
    have ps := pick_spec tv (rowOf data E t) most E 0 (-1) (.inl (by omega))
    simp only [goes] at hg L
    rw [← hg] at L Pf
    dsimp only at L Pf
    have ih := fun full' a b => ih (t + 1) (tv ++ [pick tv (rowOf data E t) most E 0 (-1)]) (pv ++ [atOf tv (pick tv (rowOf data E t) most E 0 (-1))]) full' (by omega) (by omega) (by simp [h1]) (by simp [h2]) a b hg
    generalize pick tv (rowOf data E t) most E 0 (-1) = b at hg Pf ps ih
    have rt := at_next Pf.1
    have rp := at_next Pf.2
    rw [h1] at rt
    rw [h2] at rp
    refine Ev.succ ?_
    simp only [laws_FnRouted.l0]
    rw [rt]
    refine Ev.pos (by omega) (Ev.pos (by omega) ?_)
    rcases ps with ⟨p1, _, p3⟩ | ⟨p0, p1, p2⟩
    · refine Ev.pos p1 (law_l1 most tos pl full dims data E t hE h3 (by omega) ?_ (fun j hj => ?_) ?_ E 0 (by omega) (by omega))
      · rw [rp]
        unfold atOf
        rw [if_pos p1]
      · rw [h4 j hj]
        exact p3 j (by omega) (by omega)
      · rw [up t (by omega : t < T) (by omega)]
        refine ih full h3 (fun j hj => ?_)
        rw [h4 j hj, cnt_app, if_neg (by omega), Int.add_zero]
    · obtain ⟨c, rfl⟩ := Int.eq_ofNat_of_zero_le p0
      have hc : c < E := by omega
      have e4 := h4 c hc
      have ep : rd pl (t : Int) = cnt tv (c : Int) := by
        rw [rp]
        unfold atOf
        rw [if_neg (by omega)]
      have cb := cnt_le tv (c : Int)
      rw [ep, e4]
      refine Ev.neg (by omega) (Ev.pos (by omega) (Ev.pos (by omega) (Ev.pos (by omega) (Ev.pos rfl (Ev.neg (by omega) ?_)))))
      rw [up t (by omega : t < T) (by omega)]
      have sc := set_cnt (tv := tv) (full := full) (E := E) (b := (c : Int)) p0 (by omega) h3 h4 (wrap64 (cnt tv (c : Int) + 1)) (by rw [wrap_id] <;> omega)
      exact ih _ (by simpa using h3) sc
/-! ### the draws come to an end -/
theorem smod_some (x : Int) : ∃ v, spec_Mod.f x = some v := by
  unfold spec_Mod.f
  split <;> exact ⟨_, rfl⟩
theorem times_some (x y : Int) : ∃ v, spec_Times.f x y = some v := by
  unfold spec_Times.f
  obtain ⟨a, ha⟩ := smod_some x
  obtain ⟨b, hb⟩ := smod_some y
  rw [ha, Option.bind_some, hb, Option.bind_some]
  obtain ⟨c, hc⟩ := smod_some (wrap64 (a * b))
  exact ⟨c, by rw [hc]; rfl⟩
theorem minus_some (x y : Int) : ∃ v, spec_Minus.f x y = some v := by
  unfold spec_Minus.f
  obtain ⟨a, ha⟩ := smod_some x
  obtain ⟨b, hb⟩ := smod_some y
  rw [ha, Option.bind_some, hb, Option.bind_some]
  obtain ⟨c, hc⟩ := smod_some (wrap64 (a - b))
  exact ⟨c, by rw [hc]; rfl⟩
theorem raise_tot (a : Int) : ∀ (d : Nat) (n : Int), 0 ≤ n → n < 2 ^ d → n ≤ 9223372036854775807 → Tot (fun k => spec_l1Raise.f k a n) := by
  intro d
  induction d with
  | zero =>
    intro n h0 h1 h2
    refine Tot.succ ?_
    simp only [spec_l1Raise.f]
    exact Tot.ite (fun _ => Tot.some _) (fun h => absurd (by simp at h1; omega : n = 0) h)
  | succ d ih =>
    intro n h0 h1 h2
    refine Tot.succ ?_
    simp only [spec_l1Raise.f]
    refine Tot.ite (fun _ => Tot.some _) (fun h => ?_)
    have e : wrap64 (Int.tdiv n 2) = n / 2 := by
      rw [Int.tdiv_eq_ediv_of_nonneg h0, wrap_id (by omega) (by omega)]
    rw [e]
    rw [Int.pow_succ] at h1
    refine Tot.bind (ih (n / 2) (by omega) (by omega) (by omega)) (fun x => ?_)
    obtain ⟨y, hy⟩ := times_some x x
    refine Tot.b hy (Tot.ite (fun _ => ?_) (fun _ => Tot.some _))
    obtain ⟨z, hz⟩ := times_some y a
    exact Tot.b hz (Tot.some _)
theorem inverse_tot (a : Int) : Tot (fun k => spec_Inverse.f k a) := by
  unfold spec_Inverse.f
  obtain ⟨m, hm⟩ := smod_some a
  refine Tot.b hm (Tot.bind (raise_tot m 31 2147483645 (by decide) (by decide) (by decide)) (fun x => Tot.some _))
theorem over_tot (a b : Int) : Tot (fun k => spec_Over.f k a b) := by
  unfold spec_Over.f
  refine Tot.bind (inverse_tot b) (fun x => ?_)
  obtain ⟨y, hy⟩ := times_some a x
  exact Tot.b hy (Tot.some _)
/-- A draw that comes to an end, with the place behind it not below nought. -/
def TotS {α : Type} (g : Nat → Option (α × Int × Int)) : Prop := ∃ x i h, Ev g (x, i, h) ∧ 0 ≤ i
theorem TotS.ite {α : Type} {c : Prop} [Decidable c] {f g : Nat → Option (α × Int × Int)} (h1 : c → TotS f) (h2 : ¬ c → TotS g) : TotS (fun n => if c then f n else g n) := by
  by_cases h : c
  · obtain ⟨x, i, k, e, hi⟩ := h1 h
    exact ⟨x, i, k, Ev.pos h e, hi⟩
  · obtain ⟨x, i, k, e, hi⟩ := h2 h
    exact ⟨x, i, k, Ev.neg h e, hi⟩
theorem TotS.b {α β : Type} {x : Option β} {f : Nat → β → Option (α × Int × Int)} {a : β} (h : x = Option.some a) (k : TotS (fun n => f n a)) : TotS (fun n => x.bind (f n)) := by
  obtain ⟨x, i, w, e, hi⟩ := k
  exact ⟨x, i, w, Ev.b h e, hi⟩
theorem TotS.bind {α β : Type} {g : Nat → Option β} {f : Nat → β → Option (α × Int × Int)} {a : β} (h : Ev g a) (k : TotS (fun n => f n a)) : TotS (fun n => (g n).bind (f n)) := by
  obtain ⟨x, i, w, e, hi⟩ := k
  exact ⟨x, i, w, Ev.bind h e, hi⟩
theorem TotS.some {α : Type} {x : α} {i h : Int} (hi : 0 ≤ i) : TotS (fun _ => Option.some (x, i, h)) := ⟨x, i, h, Ev.some rfl, hi⟩
theorem num_tot (l : List Int) (hl : l.length ≤ 9223372036854775807) (i h : Int) (hi : 0 ≤ i) : TotS (fun k => spec_l1Num.f k l i h) := by
  unfold spec_l1Num.f
  obtain ⟨x, i1, k1, e1, _, _, hi1⟩ := below_some l hl i h 8 hi
  refine TotS.b e1 (TotS.ite (fun _ => ?_) (fun _ => TotS.ite (fun _ => ?_) (fun _ => TotS.ite (fun _ => ?_) (fun _ => TotS.ite (fun _ => ?_) (fun _ => ?_)))))
  · obtain ⟨y, i2, k2, e2, _, _, hi2⟩ := below_some l hl i1 k1 20 hi1
    obtain ⟨z, i3, k3, e3, _, _, hi3⟩ := below_some l hl i2 k2 9 hi2
    obtain ⟨v, hv⟩ := over_tot y (wrap64 (1 + z))
    exact TotS.b e2 (TotS.b e3 (TotS.bind hv (TotS.some hi3)))
  · obtain ⟨y, i2, k2, e2, _, _, hi2⟩ := below_some l hl i1 k1 9 hi1
    obtain ⟨v, hv⟩ := minus_some 0 y
    exact TotS.b e2 (TotS.b hv (TotS.some hi2))
  · obtain ⟨y, i2, k2, e2, _, _, hi2⟩ := below_some l hl i1 k1 2147483647 hi1
    exact TotS.b e2 (TotS.some hi2)
  · obtain ⟨y, i2, k2, e2, hi2⟩ := pick_some l hl i1 k1 [0, 1, 2147483646, 1073741823, 1073741824, 32767, 32768] hi1 (by decide)
    exact TotS.b e2 (TotS.some hi2)
  · obtain ⟨y, i2, k2, e2, _, _, hi2⟩ := below_some l hl i1 k1 7 hi1
    exact TotS.b e2 (TotS.some hi2)
theorem drawof_l (l : List Int) (hl : l.length ≤ 9223372036854775807) (ds : List Int) (N : Nat) (hN : N ≤ 4096) : ∀ (d q : Nat) (i h : Int) (out : List Int), N - q = d → q ≤ N → out.length = N → 0 ≤ i → ∃ out' i' h', Ev (fun k => spec_l4DrawOf.l0 k (q : Int) l i h ds out) (ds, out', i', h') ∧ out'.length = N ∧ 0 ≤ i' := by
  intro d
  induction d with
  | zero =>
    intro q i h out hd hq ho hi
    refine ⟨out, i, h, Ev.succ ?_, ho, hi⟩
    simp only [spec_l4DrawOf.l0]
    exact Ev.neg (by omega) (Ev.some rfl)
  | succ d ih =>
    intro q i h out hd hq ho hi
    have hlt : q < N := by omega
    obtain ⟨x, i1, k1, e1, _, _, hi1⟩ := below_some l hl i h 7 hi
    obtain ⟨b, i2, k2, e2, hi2⟩ := once_some l hl i1 k1 3 hi1
    cases b with
    | false =>
      obtain ⟨out', i', h', e, hl', hi'⟩ := ih (q + 1) i2 k2 (out.set q x) (by omega) (by omega) (by simpa using ho) hi2
      refine ⟨out', i', h', Ev.succ ?_, hl', hi'⟩
      simp only [spec_l4DrawOf.l0]
      refine Ev.pos (by omega) (Ev.b e1 (Ev.pos (by omega) (Ev.b rfl (Ev.b e2 (Ev.neg (by simp) ?_)))))
      rw [up q hlt (by omega), Int.toNat_natCast]
      exact e
    | true =>
      obtain ⟨y, i3, k3, e3, hi3⟩ := num_tot l hl i2 k2 hi2
      obtain ⟨out', i', h', e, hl', hi'⟩ := ih (q + 1) i3 k3 ((out.set q x).set q y) (by omega) (by omega) (by simpa using ho) hi3
      refine ⟨out', i', h', Ev.succ ?_, hl', hi'⟩
      simp only [spec_l4DrawOf.l0]
      refine Ev.pos (by omega) (Ev.b e1 (Ev.pos (by omega) (Ev.b rfl (Ev.b e2 (Ev.pos rfl (Ev.bind e3 ?_))))))
      rw [up q hlt (by omega), Int.toNat_natCast]
      exact e
theorem spoil_some (l : List Int) (hl : l.length ≤ 9223372036854775807) (i h : Int) (ds data : List Int) (hd : ds.length ≤ 6) (hx : data.length ≤ 4096) (hi : 0 ≤ i) : ∃ ds' data' i' h', spec_l4Spoil.f l i h ds data = some (ds', data', i', h') ∧ ds'.length ≤ 7 ∧ data'.length ≤ 4097 ∧ 0 ≤ i' := by
  unfold spec_l4Spoil.f
  obtain ⟨b, i1, k1, e1, hi1⟩ := once_some l hl i h 40 hi
  rw [e1, Option.bind_some]
  cases b with
  | false => exact ⟨ds, data, i1, k1, rfl, by omega, by omega, hi1⟩
  | true =>
    rw [if_pos rfl]
    obtain ⟨x, i2, k2, e2, _, _, hi2⟩ := below_some l hl i1 k1 4 hi1
    rw [e2, Option.bind_some]
    dsimp only
    split
    · rw [if_pos (by omega)]
      exact ⟨_, _, _, _, rfl, by omega, by simp; omega, hi2⟩
    · split
      · split
        · obtain ⟨y, i3, k3, e3, hi3⟩ := pick_some l hl i2 k2 [-1, 2147483647] hi2 (by decide)
          rw [e3, Option.bind_some]
          (try rw [if_pos (by omega)])
          exact ⟨_, _, _, _, rfl, by omega, by simp; omega, hi3⟩
        · exact ⟨_, _, _, _, rfl, by omega, by omega, hi2⟩
      · split
        · rw [if_pos (by omega)]
          exact ⟨_, _, _, _, rfl, by simp; omega, by omega, hi2⟩
        · split
          · exact ⟨_, _, _, _, rfl, by simp, by simp, hi2⟩
          · exact ⟨_, _, _, _, rfl, by omega, by omega, hi2⟩
theorem draw_tot (code : List Int) (hc : code.length ≤ 1048576) : ∃ ds data most, Ev (fun k => spec_DrawRoute.f k code) (ds, data, most) ∧ ds.length ≤ 1048576 ∧ data.length ≤ 1048576 := by
  have hl : code.length ≤ 9223372036854775807 := by omega
  unfold spec_DrawRoute.f
  obtain ⟨h0, e0⟩ := new_ev code hl
  obtain ⟨x, i1, k1, e1, x0, x1, hi1⟩ := below_some code hl 0 h0 7 (by omega)
  obtain ⟨y, i2, k2, e2, y0, y1, hi2⟩ := below_some code hl i1 k1 4 hi1
  have x1 := x1 (by omega)
  have y1 := y1 (by omega)
  have w1 : wrap64 (1 + x) = 1 + x := wrap_id (by omega) (by omega)
  have w2 : wrap64 (1 + y) = 1 + y := wrap_id (by omega) (by omega)
  have m : (1 + x) * (1 + y) ≤ 7 * 4 := Int.mul_le_mul (by omega) (by omega) (by omega) (by omega)
  have m0 : 1 * 1 ≤ (1 + x) * (1 + y) := Int.mul_le_mul (by omega) (by omega) (by omega) (by omega)
  have hr : runOk 1 [1 + x, 1 + y] = true := by
    simp only [runOk, Int.one_mul]
    rw [if_neg (by omega), if_neg (by omega), if_neg (by omega), if_neg (by omega), if_neg (by omega), if_neg (by omega)]
  have e := size_ev [1 + x, 1 + y] (by simp)
  rw [if_pos hr] at e
  have pe : prod [1 + x, 1 + y] = (1 + x) * (1 + y) := by simp [prod]
  rw [pe] at e
  obtain ⟨N, hN⟩ := Int.eq_ofNat_of_zero_le (by omega : 0 ≤ (1 + x) * (1 + y))
  rw [hN] at e m
  obtain ⟨out, i3, k3, e3, l3, hi3⟩ := drawof_l code hl [1 + x, 1 + y] N (by omega) N 0 i2 k2 (List.replicate N 0) (by omega) (by omega) (by simp) hi2
  have dd : Ev (fun k => spec_l4DrawOf.f k code i2 k2 [1 + x, 1 + y]) ([1 + x, 1 + y], out, i3, k3) := by
    unfold spec_l4DrawOf.f spec_l4New.f
    refine Ev.bind (a := ([1 + x, 1 + y], List.replicate N 0)) (Ev.b (l3Ints_f _ (by simp)) (Ev.bind e (Ev.pos (by omega) (Ev.pos (by omega) (Ev.some (by simp)))))) e3
  obtain ⟨ds', data', i4, k4, e4, l4, l4', hi4⟩ := spoil_some code hl i3 k3 [1 + x, 1 + y] out (by simp) (by omega) hi3
  obtain ⟨z, i5, k5, e5, _, _, hi5⟩ := below_some code hl i4 k4 4 hi4
  obtain ⟨b, i6, k6, e6, hi6⟩ := once_some code hl i5 k5 30 hi5
  cases b with
  | false =>
    refine ⟨ds', data', wrap64 (1 + z), Ev.bind e0 (Ev.b e1 (Ev.b e2 (Ev.bind (a := ([1 + x, 1 + y], out, i3, k3)) ?_ (Ev.b e4 (Ev.b e5 (Ev.b e6 (Ev.neg (by simp) (Ev.some rfl)))))))), by omega, by omega⟩
    dsimp only
    rw [w1, w2]
    exact dd
  | true =>
    obtain ⟨u, i7, k7, e7, _⟩ := pick_some code hl i6 k6 [0, 4096, 4097] hi6 (by decide)
    refine ⟨ds', data', u, Ev.bind e0 (Ev.b e1 (Ev.b e2 (Ev.bind (a := ([1 + x, 1 + y], out, i3, k3)) ?_ (Ev.b e4 (Ev.b e5 (Ev.b e6 (Ev.pos rfl (Ev.b e7 (Ev.some rfl))))))))), by omega, by omega⟩
    dsimp only
    rw [w1, w2]
    exact dd
theorem fill_11 : Ev (fun k => impl_Fill.f k [1, 1] 0) ([1, 1], [0]) := by
  have d2 := idims_ev [1, 1] (by simp)
  have q := product_ev [1, 1] (by simp) (by decide)
  unfold impl_Fill.f impl_blank.f
  refine Ev.bind (a := ([1, 1], [0])) (Ev.bind d2 (Ev.pos (by decide) (Ev.b (clone_f [1, 1] (by simp)) (Ev.bind q (Ev.pos (by decide) (Ev.pos (by decide) (Ev.some rfl))))))) ?_
  refine Ev.succ ?_
  simp only [impl_Fill.l0]
  refine Ev.pos (by decide) (Ev.b (a := 0) (by decide) (Ev.pos (by decide) (Ev.pos (by decide) (Ev.succ ?_))))
  simp only [impl_Fill.l0]
  rw [wrap_id (by decide) (by decide)]
  exact Ev.neg (by decide) (Ev.some rfl)
theorem FnRouted (code : List Int) : ∃ k, laws_FnRouted.f k code = some true := by
  apply Ev.rounds
  unfold laws_FnRouted.f laws_big.f
  refine Ev.b rfl (Ev.ite (fun _ => Ev.some rfl) (fun hb => ?_))
  have hc : code.length ≤ 1048576 := by
    simp only [decide_eq_true_eq] at hb
    omega
  obtain ⟨ds, data, most, ed, h1, h2⟩ := draw_tot code hc
  obtain ⟨a0, b0, _, ei0, t0⟩ := route_told [1, 1] [0] 1 (by simp) (by simp)
  obtain ⟨a, b, es, ei, tt⟩ := route_told ds data most h1 h2
  have l0 : (a0.length : Int) = 1 := by
    rcases t0 with ⟨_, _, h⟩ | ⟨T, E, hd, _, _, _, hg⟩
    · exact absurd (by decide) h
    · have L := goes_len [0] E 1 T 0 [] []
      rw [← hg] at L
      have hT : (1 : Int) = (T : Int) := (List.cons.inj hd).1
      have := L.1
      simp only [List.length_nil] at this
      omega
  refine Ev.bind ed (Ev.bind fill_11 (Ev.bind ei0 (Ev.pos l0 (Ev.bind ei (Ev.bind es (Ev.pos rfl ?_))))))
  rcases tt with ⟨rfl, rfl, _⟩ | ⟨T, E, hd, hT, hE, hT1, hg⟩
  · exact Ev.pos (by simp) (Ev.some rfl)
  · have L := goes_len data E most T 0 [] []
    rw [← hg] at L
    have la := L.1
    simp only [List.length_nil] at la
    have r1 : rd ds 1 = (E : Int) := by rw [hd]; rfl
    dsimp only
    rw [r1]
    refine Ev.neg (by omega) (Ev.pos (by rw [hd]; simp) (Ev.pos (by omega) (Ev.pos (by omega) ?_)))
    refine law_l0 most ds data a b T E hd hT hE T 0 [] [] _ (by omega) (by omega) rfl rfl (by simp) (fun j hj => ?_) hg
    rw [rd_at (by simp; omega), List.getElem_replicate]
    rfl
end Go.Proofs.Ytcpemdedmepfeaa.PureFnRouted
