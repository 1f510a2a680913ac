/- The pure statement of FnExactFill: program and reference make the same tensor of one number, of new memory. -/
import Derived.Test.YtajknaobbjlljaaPFnExactFillx4
import Derived.Test.YtajknaobbjlljaaBase
import Derived.Test.YtajknaobbjlljaaVM
namespace Go.Proofs.Ytajknaobbjlljaa.PureFnExactFill
set_option linter.unusedVariables false
set_option linter.unusedSimpArgs false
open Go.RowKit Go.Proofs.Ytajknaobbjlljaa.PFnExactFill Go.Proofs.YtajknaobbjlljaaW.PrintWords Go.Proofs.YtajknaobbjlljaaW.PrintLast Go.Proofs.YtajknaobbjlljaaW.PrintMore Go.Proofs.Ytajknaobbjlljaa.Base Go.Proofs.Ytajknaobbjlljaa.VM
/-! ### lists of whole numbers taken over and held against each other -/
theorem toIntS_l (l : List Int) (hn : l.length ≤ 9223372036854775807) : ∀ (d i : Nat), l.length - i = d → i ≤ l.length → Ev (fun k => laws_toIntS.l0 k l (l.take i ++ List.replicate (l.length - i) 0) (i : Int)) l := by
  intro d
  induction d with
  | zero =>
    intro i hd hi
    refine Ev.succ ?_
    simp only [laws_toIntS.l0]
    refine Ev.neg (by omega) (Ev.some ?_)
    rw [hd, List.take_of_length_le (by omega)]
    simp
  | succ d ih =>
    intro i hd hi
    refine Ev.succ ?_
    simp only [laws_toIntS.l0]
    have hlt : i < l.length := by omega
    refine Ev.pos (by omega) (Ev.pos (by omega) (Ev.pos (by simp; omega) ?_))
    rw [rd_at hlt, up i hlt hn, Int.toNat_natCast, set_copy hlt]
    exact ih (i + 1) (by omega) (by omega)
theorem toIntS_ev (l : List Int) (h : l.length ≤ 35184372088832) : Ev (fun k => laws_toIntS.f k l) l := by
  unfold laws_toIntS.f
  refine Ev.pos (by omega) (Ev.pos (by omega) ?_)
  have := toIntS_l l (by omega) l.length 0 (by omega) (by omega)
  simpa using this
theorem eqIntS_l (l : List Int) (hn : l.length ≤ 9223372036854775807) : ∀ (d i : Nat), l.length - i = d → i ≤ l.length → Ev (fun k => laws_eqIntS.l0 k l l (i : Int)) true := by
  intro d
  induction d with
  | zero =>
    intro i hd hi
    refine Ev.succ ?_
    simp only [laws_eqIntS.l0]
    exact Ev.neg (by omega) (Ev.some rfl)
  | succ d ih =>
    intro i hd hi
    refine Ev.succ ?_
    simp only [laws_eqIntS.l0]
    have hlt : i < l.length := by omega
    refine Ev.pos (by omega) (Ev.pos (by omega) (Ev.pos (by omega) (Ev.pos (by trivial) ?_)))
    rw [up i hlt hn]
    exact ih (i + 1) (by omega) (by omega)
theorem eqIntS_ev (l : List Int) (h : l.length ≤ 9223372036854775807) : Ev (fun k => laws_eqIntS.f k l l) true := by
  unfold laws_eqIntS.f
  exact Ev.pos rfl (eqIntS_l l (by omega) l.length 0 (by omega) (by omega))
/-! ### lengths -/
theorem size_l (l : List Int) (hn : l.length ≤ 9223372036854775807) : ∀ (d i : Nat) (n : Int), l.length - i = d → i ≤ l.length → 1 ≤ n → n ≤ 4096 → Ev (fun k => spec_l3Size.l0 k l n (i : Int)) (if runOk n (l.drop i) = true then n * prod (l.drop i) else 0) := by
  intro d
  induction d with
  | zero =>
    intro i n hd hi h0 h1
    refine Ev.succ ?_
    simp only [spec_l3Size.l0]
    refine Ev.neg (by omega) (Ev.some ?_)
    rw [List.drop_eq_nil_of_le (by omega)]
    simp [runOk, prod]
  | succ d ih =>
    intro i n hd hi h0 h1
    have hlt : i < l.length := by omega
    refine Ev.succ ?_
    simp only [spec_l3Size.l0]
    refine Ev.pos (by omega) (Ev.pos (by omega) ?_)
    rw [rd_at hlt, drop_at hlt]
    refine Ev.ite (fun h => Ev.succ ?_) (fun h => Ev.succ ?_)
    · simp only [spec_l3Size.j1]
      refine Ev.pos (by trivial) (Ev.some ?_)
      simp [runOk, h]
    · simp only [spec_l3Size.j1]
      by_cases h2 : 4096 < l[i]
      · refine Ev.pos (by simpa using h2) (Ev.some ?_)
        simp [runOk, h, h2]
      · have p1 : n * l[i] ≤ 4096 * 4096 := Int.mul_le_mul h1 (by omega) (by omega) (by omega)
        have p0 : 1 * 1 ≤ n * l[i] := Int.mul_le_mul h0 (by omega) (by omega) (by omega)
        refine Ev.neg (by simpa using h2) (Ev.pos (by omega) (Ev.pos (by omega) ?_))
        rw [rd_at hlt, wrap_id (by omega : -9223372036854775808 ≤ n * l[i]) (by omega), up i hlt hn]
        refine Ev.ite (fun h3 => Ev.some ?_) (fun h3 => ?_)
        · simp [runOk, h, h2, show 4096 < n * l[i] from h3]
        · have e : runOk n (l[i] :: l.drop (i + 1)) = runOk (n * l[i]) (l.drop (i + 1)) := by
            simp [runOk, h, h2, show ¬ 4096 < n * l[i] from h3]
          rw [e]
          simp only [prod]
          rw [← Int.mul_assoc]
          exact ih (i + 1) _ (by omega) (by omega) (by omega) (by omega)
theorem size_ev (l : List Int) (hn : l.length ≤ 9223372036854775807) : Ev (fun k => spec_l3Size.f k l) (if runOk 1 l = true then prod l else 0) := by
  have := size_l l hn l.length 0 1 (by omega) (by omega) (by omega) (by omega)
  rw [Int.one_mul] at this
  exact this
/-- Lengths that can be. -/
def dimsB (l : List Int) : Bool := decide (l.length ≤ 6) && runOk 1 l
theorem sdims_ev (l : List Int) (hn : l.length ≤ 9223372036854775807) : Ev (fun k => spec_DimsOk.f k l) (dimsB l) := by
  unfold spec_DimsOk.f dimsB
  refine Ev.ite (fun h => Ev.bind (size_ev l hn) (Ev.some ?_)) (fun h => Ev.some ?_)
  · rw [show decide (l.length ≤ 6) = true from decide_eq_true (by omega), Bool.true_and]
    cases hr : runOk 1 l with
    | true =>
      have := prod_pos hr
      simp
      omega
    | false => simp
  · rw [show decide (l.length ≤ 6) = false from decide_eq_false (by omega)]
    rfl
theorem idims_l (l : List Int) (hn : l.length ≤ 9223372036854775807) : ∀ (d i : Nat) (n : Int), l.length - i = d → i ≤ l.length → 1 ≤ n → n ≤ 4096 → Ev (fun k => impl_DimsOk.l0 k l n l (l.length : Int) (i : Int)) (decide (l.length ≤ 6) && runOk n (l.drop i)) := by
  intro d
  induction d with
  | zero =>
    intro i n hd hi h0 h1
    refine Ev.succ ?_
    simp only [impl_DimsOk.l0]
    refine Ev.neg (by omega) (Ev.some ?_)
    rw [List.drop_eq_nil_of_le (by omega)]
    simp only [runOk, Bool.and_true]
    exact decide_eq_decide.2 (by omega)
  | succ d ih =>
    intro i n hd hi h0 h1
    have hlt : i < l.length := by omega
    refine Ev.succ ?_
    simp only [impl_DimsOk.l0]
    refine Ev.pos (by omega) (Ev.pos (by omega) (Ev.pos (by omega) ?_))
    rw [rd_at hlt, drop_at hlt]
    refine Ev.ite (fun h => Ev.succ ?_) (fun h => Ev.succ ?_)
    · simp only [impl_DimsOk.j1]
      refine Ev.pos (by trivial) (Ev.some ?_)
      simp [runOk, h]
    · simp only [impl_DimsOk.j1]
      by_cases h2 : 4096 < l[i]
      · refine Ev.pos (by simpa using h2) (Ev.some ?_)
        simp [runOk, h, h2]
      · have p1 : n * l[i] ≤ 4096 * 4096 := Int.mul_le_mul h1 (by omega) (by omega) (by omega)
        have p0 : 1 * 1 ≤ n * l[i] := Int.mul_le_mul h0 (by omega) (by omega) (by omega)
        refine Ev.neg (by simpa using h2) ?_
        rw [wrap_id (by omega : -9223372036854775808 ≤ n * l[i]) (by omega), up i hlt hn]
        refine Ev.ite (fun h3 => Ev.some ?_) (fun h3 => ?_)
        · simp [runOk, h, h2, show 4096 < n * l[i] from h3]
        · have e : runOk n (l[i] :: l.drop (i + 1)) = runOk (n * l[i]) (l.drop (i + 1)) := by
            simp [runOk, h, h2, show ¬ 4096 < n * l[i] from h3]
          rw [e]
          exact ih (i + 1) _ (by omega) (by omega) (by omega) (by omega)
theorem idims_ev (l : List Int) (hn : l.length ≤ 9223372036854775807) : Ev (fun k => impl_DimsOk.f k l) (dimsB l) := idims_l l hn l.length 0 1 (by omega) (by omega) (by omega) (by omega)
/-! ### marks: written into what was made, and found there again -/
def ups (a : Int) : Nat → List Int
  | 0 => []
  | n + 1 => a :: ups (a + 1) n
theorem ups_len : ∀ (n : Nat) (a : Int), (ups a n).length = n
  | 0, _ => rfl
  | n + 1, a => by simp [ups, ups_len n]
theorem ups_at : ∀ (n : Nat) (a : Int) (i : Nat) (h : i < (ups a n).length), (ups a n)[i] = a + i
  | 0, _, _, h => by simp [ups] at h
  | n + 1, a, 0, _ => by simp [ups]
  | n + 1, a, i + 1, h => by
    simp only [ups, List.getElem_cons_succ]
    rw [ups_at n (a + 1) i (by simpa [ups] using h)]
    omega
theorem set_over {β : Type} {L l : List β} {i : Nat} (h : i < L.length) (hl : l.length = L.length) : (L.take i ++ l.drop i).set i L[i] = L.take (i + 1) ++ l.drop (i + 1) := by
  have h' : i < l.length := by omega
  rw [List.drop_eq_getElem_cons h', List.set_append_right _ _ (by simp; omega), List.length_take, Nat.min_eq_left (by omega), Nat.sub_self, List.set_cons_zero, List.take_succ_eq_append_getElem h, List.append_assoc]
  rfl
theorem mark_l (l : List Int) (a : Int) (h0 : 0 ≤ a) (h1 : a + l.length ≤ 4611686018427387904) : ∀ (d i : Nat), l.length - i = d → i ≤ l.length → Ev (fun k => laws_markIntS.l0 k ((ups a l.length).take i ++ l.drop i) (a + i) (i : Int)) (a + l.length, ups a l.length) := by
  intro d
  induction d with
  | zero =>
    intro i hd hi
    refine Ev.succ ?_
    simp only [laws_markIntS.l0]
    have e : (ups a l.length).take i ++ l.drop i = ups a l.length := by
      rw [List.drop_eq_nil_of_le (by omega), List.append_nil, List.take_of_length_le (by rw [ups_len]; omega)]
    rw [e]
    exact Ev.neg (by rw [ups_len]; omega) (Ev.some (by rw [show i = l.length by omega]))
  | succ d ih =>
    intro i hd hi
    refine Ev.succ ?_
    simp only [laws_markIntS.l0]
    have hu : i < (ups a l.length).length := by rw [ups_len]; omega
    refine Ev.pos (by simp [ups_len]; omega) (Ev.pos (by omega) ?_)
    have e := set_over hu (l := l) (by rw [ups_len])
    rw [ups_at l.length a i hu] at e
    rw [Int.toNat_natCast, e, up i (by omega : i < l.length) (by omega), wrap_id (by omega) (by omega), show a + (i : Int) + 1 = a + ((i + 1 : Nat) : Int) by omega]
    exact ih (i + 1) (by omega) (by omega)
theorem mark_ev (l : List Int) (a : Int) (h0 : 0 ≤ a) (h1 : a + l.length ≤ 4611686018427387904) : Ev (fun k => laws_markIntS.f k l a) (a + l.length, ups a l.length) := by
  unfold laws_markIntS.f
  have := mark_l l a h0 h1 l.length 0 (by omega) (by omega)
  simpa using this
theorem held_l (n : Nat) (a : Int) (h0 : 0 ≤ a) (h1 : a + n ≤ 4611686018427387904) : ∀ (d i : Nat), n - i = d → i ≤ n → Ev (fun k => laws_heldIntS.l0 k (ups a n) (a + i) (i : Int)) (a + n) := by
  intro d
  induction d with
  | zero =>
    intro i hd hi
    refine Ev.succ ?_
    simp only [laws_heldIntS.l0]
    exact Ev.neg (by rw [ups_len]; omega) (Ev.some (by rw [show i = n by omega]))
  | succ d ih =>
    intro i hd hi
    refine Ev.succ ?_
    simp only [laws_heldIntS.l0]
    have hu : i < (ups a n).length := by rw [ups_len]; omega
    refine Ev.pos (by omega) (Ev.pos (by omega) ?_)
    rw [rd_at hu, ups_at n a i hu, up i (by omega : i < n) (by omega), wrap_id (by omega) (by omega), show a + (i : Int) + 1 = a + ((i + 1 : Nat) : Int) by omega]
    exact Ev.pos rfl (ih (i + 1) (by omega) (by omega))
theorem held_ev (n : Nat) (a : Int) (h0 : 0 ≤ a) (h1 : a + n ≤ 4611686018427387904) : Ev (fun k => laws_heldIntS.f k (ups a n) a) (a + n) := by
  unfold laws_heldIntS.f
  have := held_l n a h0 h1 n 0 (by omega) (by omega)
  simpa using this
theorem product_l (l : List Int) (hn : l.length ≤ 9223372036854775807) : ∀ (d i : Nat) (n : Int), l.length - i = d → i ≤ l.length → 1 ≤ n → n ≤ 4096 → runOk n (l.drop i) = true → Ev (fun k => impl_product.l0 k n l (l.length : Int) (i : Int)) (n * prod (l.drop i)) := by
  intro d
  induction d with
  | zero =>
    intro i n hd hi h0 h1 hr
    refine Ev.succ ?_
    simp only [impl_product.l0]
    refine Ev.neg (by omega) (Ev.some ?_)
    rw [List.drop_eq_nil_of_le (by omega)]
    simp [prod]
  | succ d ih =>
    intro i n hd hi h0 h1 hr
    have hlt : i < l.length := by omega
    rw [drop_at hlt] at hr ⊢
    obtain ⟨h2, h3, h4, h5⟩ := runOk_cons hr
    have p0 : 1 * 1 ≤ n * l[i] := Int.mul_le_mul h0 h2 (by omega) (by omega)
    refine Ev.succ ?_
    simp only [impl_product.l0]
    refine Ev.pos (by omega) (Ev.pos (by omega) (Ev.pos (by omega) ?_))
    rw [rd_at hlt, up i hlt hn, wrap_id (by omega : -9223372036854775808 ≤ n * l[i]) (by omega)]
    simp only [prod]
    rw [← Int.mul_assoc]
    exact ih (i + 1) _ (by omega) (by omega) (by omega) h4 h5
theorem product_ev (l : List Int) (hn : l.length ≤ 9223372036854775807) (hr : runOk 1 l = true) : Ev (fun k => impl_product.f k l) (prod l) := by
  have := product_l l hn l.length 0 1 (by omega) (by omega) (by omega) (by omega) hr
  rw [Int.one_mul] at this
  exact this
theorem clone_f (l : List Int) (h : l.length < 17592186044416) : slices_Clone_int_int.f l = some l := by
  unfold slices_Clone_int_int.f
  rw [if_pos h]
theorem l3Ints_f (l : List Int) (h : l.length < 17592186044416) : spec_l3Ints.f l = some l := by
  unfold spec_l3Ints.f
  simp only [Option.bind_some, List.nil_append]
  rw [if_pos (by simp; omega)]
/-! ### tensors of one number -/
theorem mod_f (x : Int) : ∃ v, spec_Mod.f x = some v ∧ impl_Mod.f x = some v := by
  unfold spec_Mod.f impl_Mod.f
  split <;> exact ⟨_, rfl, rfl⟩
theorem sfill_l (x v : Int) (hv : spec_Mod.f x = some v) (ds : List Int) (n : Nat) (hn : n ≤ 9223372036854775807) : ∀ (d i : Nat), n - i = d → i ≤ n → Ev (fun k => spec_Fill.l0 k x (i : Int) ds ((List.replicate n v).take i ++ (List.replicate n 0).drop i)) (ds, List.replicate n v) := by
  intro d
  induction d with
  | zero =>
    intro i hd hi
    refine Ev.succ ?_
    simp only [spec_Fill.l0]
    have e : (List.replicate n v).take i ++ (List.replicate n 0).drop i = List.replicate n v := by
      rw [show i = n by omega]
      simp
    rw [e]
    exact Ev.neg (by simp; omega) (Ev.some rfl)
  | succ d ih =>
    intro i hd hi
    refine Ev.succ ?_
    simp only [spec_Fill.l0]
    have hlt : i < (List.replicate n v).length := by simp; omega
    refine Ev.pos (by simp; omega) (Ev.b hv (Ev.pos (by omega) ?_))
    have o := set_over hlt (l := List.replicate n (0 : Int)) (by simp)
    rw [List.getElem_replicate] at o
    rw [Int.toNat_natCast, o, up i (by omega : i < n) hn]
    exact ih (i + 1) (by omega) (by omega)
theorem ifill_l (x v : Int) (hv : impl_Mod.f x = some v) (ds : List Int) (n : Nat) (hn : n ≤ 9223372036854775807) : ∀ (d i : Nat), n - i = d → i ≤ n → Ev (fun k => impl_Fill.l0 k x (n : Int) (i : Int) ds ((List.replicate n v).take i ++ (List.replicate n 0).drop i)) (ds, List.replicate n v) := by
  intro d
  induction d with
  | zero =>
    intro i hd hi
    refine Ev.succ ?_
    simp only [impl_Fill.l0]
    have e : (List.replicate n v).take i ++ (List.replicate n 0).drop i = List.replicate n v := by
      rw [show i = n by omega]
      simp
    rw [e]
    exact Ev.neg (by omega) (Ev.some rfl)
  | succ d ih =>
    intro i hd hi
    refine Ev.succ ?_
    simp only [impl_Fill.l0]
    have hlt : i < (List.replicate n v).length := by simp; omega
    refine Ev.pos (by omega) (Ev.b hv (Ev.pos (by omega) (Ev.pos (by simp; omega) ?_)))
    have o := set_over hlt (l := List.replicate n (0 : Int)) (by simp)
    rw [List.getElem_replicate] at o
    rw [Int.toNat_natCast, o, up i (by omega : i < n) hn]
    exact ih (i + 1) (by omega) (by omega)
theorem fill_ev (l : List Int) (x : Int) (hn : l.length ≤ 1048576) : ∃ a b, Ev (fun k => spec_Fill.f k l x) (a, b) ∧ Ev (fun k => impl_Fill.f k l x) (a, b) ∧ a.length ≤ 1048576 ∧ b.length ≤ 1048576 := by
  obtain ⟨v, v1, v2⟩ := mod_f x
  have d1 := sdims_ev l (by omega)
  have d2 := idims_ev l (by omega)
  unfold spec_Fill.f impl_Fill.f spec_l4New.f impl_blank.f
  cases hd : dimsB l with
  | false =>
    rw [hd] at d1 d2
    refine ⟨[], [], Ev.bind d1 (Ev.neg (by simp) (Ev.some rfl)), Ev.bind (Ev.bind d2 (Ev.neg (by simp) (Ev.some rfl))) ?_, by simp, by simp⟩
    exact ifill_l x v v2 [] 0 (by omega) 0 0 (by omega) (by omega)
  | true =>
    rw [hd] at d1 d2
    unfold dimsB at hd
    simp only [Bool.and_eq_true, decide_eq_true_eq] at hd
    have p := prod_le hd.2 0
    rw [List.drop_zero] at p
    have e := size_ev l (by omega)
    rw [if_pos hd.2] at e
    have q := product_ev l (by omega) hd.2
    refine ⟨l, List.replicate (prod l).toNat v, Ev.bind d1 (Ev.pos rfl (Ev.bind (a := (l, List.replicate (prod l).toNat 0)) (Ev.b (l3Ints_f l (by omega)) (Ev.bind e (Ev.pos (by omega) (Ev.pos (by omega) (Ev.some rfl))))) ?_)), Ev.bind (a := (l, List.replicate (prod l).toNat 0)) (Ev.bind d2 (Ev.pos rfl (Ev.b (clone_f l (by omega)) (Ev.bind q (Ev.pos (by omega) (Ev.pos (by omega) (Ev.some rfl))))))) ?_, hn, by simp; omega⟩
    · exact sfill_l x v v1 l (prod l).toNat (by omega) _ 0 rfl (by omega)
    · simp only [List.length_replicate]
      exact ifill_l x v v2 l (prod l).toNat (by omega) _ 0 rfl (by omega)
theorem tensor_eq (a b : List Int) (ha : a.length ≤ 1048576) (hb : b.length ≤ 1048576) : Ev (fun k => laws_eqTensor.f k a b a b) true := by
  unfold laws_eqTensor.f
  exact Ev.bind (eqIntS_ev a (by omega)) (Ev.pos rfl (Ev.bind (eqIntS_ev b (by omega)) (Ev.pos rfl (Ev.some rfl))))
theorem rest (l : List Int) (x : Int) (a b : List Int) (hl : l.length ≤ 1048576) (ha : a.length ≤ 1048576) (hb : b.length ≤ 1048576) (hi : Ev (fun k => impl_Fill.f k l x) (a, b)) : Ev (fun k => laws_FnExactFill.j0 k l x false a b a b) true := by
  have m : Ev (fun k => laws_markTensor.f k a b 1) (1 + (a.length : Int) + b.length, ups 1 a.length, ups (1 + (a.length : Int)) b.length) := by
    unfold laws_markTensor.f
    exact Ev.bind (mark_ev a 1 (by omega) (by omega)) (Ev.bind (mark_ev b _ (by omega) (by omega)) (Ev.some rfl))
  have h : Ev (fun k => laws_heldTensor.f k (ups 1 a.length) (ups (1 + (a.length : Int)) b.length) 1) (1 + (a.length : Int) + b.length) := by
    unfold laws_heldTensor.f
    exact Ev.bind (held_ev a.length 1 (by omega) (by omega)) (Ev.neg (by omega) (Ev.bind (held_ev b.length _ (by omega) (by omega)) (Ev.neg (by omega) (Ev.some rfl))))
  refine Ev.succ ?_
  simp only [laws_FnExactFill.j0]
  exact Ev.neg (by simp) (Ev.bind m (Ev.bind h (Ev.neg (by omega) (Ev.pos rfl (Ev.bind (toIntS_ev l (by omega)) (Ev.bind hi (Ev.bind (tensor_eq a b ha hb) (Ev.pos rfl (Ev.bind h (Ev.neg (by omega) (Ev.pos rfl (Ev.some rfl))))))))))))
theorem FnExactFill (l : List Int) (x : Int) : ∃ k, laws_FnExactFill.f k l x = some true := by
  apply Ev.rounds
  unfold laws_FnExactFill.f
  refine Ev.ite (fun _ => Ev.some rfl) (fun h => ?_)
  have t := toIntS_ev l (by omega)
  obtain ⟨a, b, hs, hi, ha, hb⟩ := fill_ev l x (by omega)
  refine Ev.bind t (Ev.bind hs (Ev.bind t (Ev.bind hi (Ev.bind (tensor_eq a b ha hb) (Ev.pos rfl (Ev.bind t (Ev.bind (eqIntS_ev l (by omega)) (Ev.pos rfl (Ev.bind (mark_ev l 1 (by omega) (by omega)) (Ev.neg (by simp; omega) (Ev.bind (tensor_eq a b ha hb) ?_)))))))))))
  exact rest l x a b (by omega) ha hb hi
end Go.Proofs.Ytajknaobbjlljaa.PureFnExactFill
