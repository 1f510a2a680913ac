/- The pure statement of FnExactWhole: program and reference make the same whole view of lengths, of new memory. -/
import Derived.Test.YtajknaobbjlljaaPFnExactWholex4
import Derived.Test.YtajknaobbjlljaaBase
import Derived.Test.YtajknaobbjlljaaVM
namespace Go.Proofs.Ytajknaobbjlljaa.PureFnExactWhole
set_option linter.unusedVariables false
set_option linter.unusedSimpArgs false
open Go.RowKit Go.Proofs.Ytajknaobbjlljaa.PFnExactWhole Go.Proofs.YtajknaobbjlljaaW.PrintWords Go.Proofs.YtajknaobbjlljaaW.PrintLast Go.Proofs.YtajknaobbjlljaaW.PrintMore Go.Proofs.Ytajknaobbjlljaa.Base Go.Proofs.Ytajknaobbjlljaa.VM
/-! ### lists of whole numbers taken over and held against each other -/
theorem toIntS_l (l : List Int) (hn : l.length ≤ 9223372036854775807) : ∀ (d i : Nat), l.length - i = d → i ≤ l.length → Ev (fun k => laws_toIntS.l0 k l (l.take i ++ List.replicate (l.length - i) 0) (i : Int)) l := by
  intro d
  induction d with
  | zero =>
    intro i hd hi
    refine Ev.succ ?_
    simp only [laws_toIntS.l0]
    refine Ev.neg (by omega) (Ev.some ?_)
    rw [hd, List.take_of_length_le (by omega)]
    simp
  | succ d ih =>
    intro i hd hi
    refine Ev.succ ?_
    simp only [laws_toIntS.l0]
    have hlt : i < l.length := by omega
    refine Ev.pos (by omega) (Ev.pos (by omega) (Ev.pos (by simp; omega) ?_))
    rw [rd_at hlt, up i hlt hn, Int.toNat_natCast, set_copy hlt]
    exact ih (i + 1) (by omega) (by omega)
theorem toIntS_ev (l : List Int) (h : l.length ≤ 35184372088832) : Ev (fun k => laws_toIntS.f k l) l := by
  unfold laws_toIntS.f
  refine Ev.pos (by omega) (Ev.pos (by omega) ?_)
  have := toIntS_l l (by omega) l.length 0 (by omega) (by omega)
  simpa using this
theorem eqIntS_l (l : List Int) (hn : l.length ≤ 9223372036854775807) : ∀ (d i : Nat), l.length - i = d → i ≤ l.length → Ev (fun k => laws_eqIntS.l0 k l l (i : Int)) true := by
  intro d
  induction d with
  | zero =>
    intro i hd hi
    refine Ev.succ ?_
    simp only [laws_eqIntS.l0]
    exact Ev.neg (by omega) (Ev.some rfl)
  | succ d ih =>
    intro i hd hi
    refine Ev.succ ?_
    simp only [laws_eqIntS.l0]
    have hlt : i < l.length := by omega
    refine Ev.pos (by omega) (Ev.pos (by omega) (Ev.pos (by omega) (Ev.pos (by trivial) ?_)))
    rw [up i hlt hn]
    exact ih (i + 1) (by omega) (by omega)
theorem eqIntS_ev (l : List Int) (h : l.length ≤ 9223372036854775807) : Ev (fun k => laws_eqIntS.f k l l) true := by
  unfold laws_eqIntS.f
  exact Ev.pos rfl (eqIntS_l l (by omega) l.length 0 (by omega) (by omega))
/-! ### lengths -/
theorem size_l (l : List Int) (hn : l.length ≤ 9223372036854775807) : ∀ (d i : Nat) (n : Int), l.length - i = d → i ≤ l.length → 1 ≤ n → n ≤ 4096 → Ev (fun k => spec_l3Size.l0 k l n (i : Int)) (if runOk n (l.drop i) = true then n * prod (l.drop i) else 0) := by
  intro d
  induction d with
  | zero =>
    intro i n hd hi h0 h1
    refine Ev.succ ?_
    simp only [spec_l3Size.l0]
    refine Ev.neg (by omega) (Ev.some ?_)
    rw [List.drop_eq_nil_of_le (by omega)]
    simp [runOk, prod]
  | succ d ih =>
    intro i n hd hi h0 h1
    have hlt : i < l.length := by omega
    refine Ev.succ ?_
    simp only [spec_l3Size.l0]
    refine Ev.pos (by omega) (Ev.pos (by omega) ?_)
    rw [rd_at hlt, drop_at hlt]
    refine Ev.ite (fun h => Ev.succ ?_) (fun h => Ev.succ ?_)
    · simp only [spec_l3Size.j1]
      refine Ev.pos (by trivial) (Ev.some ?_)
      simp [runOk, h]
    · simp only [spec_l3Size.j1]
      by_cases h2 : 4096 < l[i]
      · refine Ev.pos (by simpa using h2) (Ev.some ?_)
        simp [runOk, h, h2]
      · have p1 : n * l[i] ≤ 4096 * 4096 := Int.mul_le_mul h1 (by omega) (by omega) (by omega)
        have p0 : 1 * 1 ≤ n * l[i] := Int.mul_le_mul h0 (by omega) (by omega) (by omega)
        refine Ev.neg (by simpa using h2) (Ev.pos (by omega) (Ev.pos (by omega) ?_))
        rw [rd_at hlt, wrap_id (by omega : -9223372036854775808 ≤ n * l[i]) (by omega), up i hlt hn]
        refine Ev.ite (fun h3 => Ev.some ?_) (fun h3 => ?_)
        · simp [runOk, h, h2, show 4096 < n * l[i] from h3]
        · have e : runOk n (l[i] :: l.drop (i + 1)) = runOk (n * l[i]) (l.drop (i + 1)) := by
            simp [runOk, h, h2, show ¬ 4096 < n * l[i] from h3]
          rw [e]
          simp only [prod]
          rw [← Int.mul_assoc]
          exact ih (i + 1) _ (by omega) (by omega) (by omega) (by omega)
theorem size_ev (l : List Int) (hn : l.length ≤ 9223372036854775807) : Ev (fun k => spec_l3Size.f k l) (if runOk 1 l = true then prod l else 0) := by
  have := size_l l hn l.length 0 1 (by omega) (by omega) (by omega) (by omega)
  rw [Int.one_mul] at this
  exact this
/-- Lengths that can be. -/
def dimsB (l : List Int) : Bool := decide (l.length ≤ 6) && runOk 1 l
theorem sdims_ev (l : List Int) (hn : l.length ≤ 9223372036854775807) : Ev (fun k => spec_DimsOk.f k l) (dimsB l) := by
  unfold spec_DimsOk.f dimsB
  refine Ev.ite (fun h => Ev.bind (size_ev l hn) (Ev.some ?_)) (fun h => Ev.some ?_)
  · rw [show decide (l.length ≤ 6) = true from decide_eq_true (by omega), Bool.true_and]
    cases hr : runOk 1 l with
    | true =>
      have := prod_pos hr
      simp
      omega
    | false => simp
  · rw [show decide (l.length ≤ 6) = false from decide_eq_false (by omega)]
    rfl
theorem idims_l (l : List Int) (hn : l.length ≤ 9223372036854775807) : ∀ (d i : Nat) (n : Int), l.length - i = d → i ≤ l.length → 1 ≤ n → n ≤ 4096 → Ev (fun k => impl_DimsOk.l0 k l n l (l.length : Int) (i : Int)) (decide (l.length ≤ 6) && runOk n (l.drop i)) := by
  intro d
  induction d with
  | zero =>
    intro i n hd hi h0 h1
    refine Ev.succ ?_
    simp only [impl_DimsOk.l0]
    refine Ev.neg (by omega) (Ev.some ?_)
    rw [List.drop_eq_nil_of_le (by omega)]
    simp only [runOk, Bool.and_true]
    exact decide_eq_decide.2 (by omega)
  | succ d ih =>
    intro i n hd hi h0 h1
    have hlt : i < l.length := by omega
    refine Ev.succ ?_
    simp only [impl_DimsOk.l0]
    refine Ev.pos (by omega) (Ev.pos (by omega) (Ev.pos (by omega) ?_))
    rw [rd_at hlt, drop_at hlt]
    refine Ev.ite (fun h => Ev.succ ?_) (fun h => Ev.succ ?_)
    · simp only [impl_DimsOk.j1]
      refine Ev.pos (by trivial) (Ev.some ?_)
      simp [runOk, h]
    · simp only [impl_DimsOk.j1]
      by_cases h2 : 4096 < l[i]
      · refine Ev.pos (by simpa using h2) (Ev.some ?_)
        simp [runOk, h, h2]
      · have p1 : n * l[i] ≤ 4096 * 4096 := Int.mul_le_mul h1 (by omega) (by omega) (by omega)
        have p0 : 1 * 1 ≤ n * l[i] := Int.mul_le_mul h0 (by omega) (by omega) (by omega)
        refine Ev.neg (by simpa using h2) ?_
        rw [wrap_id (by omega : -9223372036854775808 ≤ n * l[i]) (by omega), up i hlt hn]
        refine Ev.ite (fun h3 => Ev.some ?_) (fun h3 => ?_)
        · simp [runOk, h, h2, show 4096 < n * l[i] from h3]
        · have e : runOk n (l[i] :: l.drop (i + 1)) = runOk (n * l[i]) (l.drop (i + 1)) := by
            simp [runOk, h, h2, show ¬ 4096 < n * l[i] from h3]
          rw [e]
          exact ih (i + 1) _ (by omega) (by omega) (by omega) (by omega)
theorem idims_ev (l : List Int) (hn : l.length ≤ 9223372036854775807) : Ev (fun k => impl_DimsOk.f k l) (dimsB l) := idims_l l hn l.length 0 1 (by omega) (by omega) (by omega) (by omega)
/-! ### marks: written into what was made, and found there again -/
def ups (a : Int) : Nat → List Int
  | 0 => []
  | n + 1 => a :: ups (a + 1) n
theorem ups_len : ∀ (n : Nat) (a : Int), (ups a n).length = n
  | 0, _ => rfl
  | n + 1, a => by simp [ups, ups_len n]
theorem ups_at : ∀ (n : Nat) (a : Int) (i : Nat) (h : i < (ups a n).length), (ups a n)[i] = a + i
  | 0, _, _, h => by simp [ups] at h
  | n + 1, a, 0, _ => by simp [ups]
  | n + 1, a, i + 1, h => by
    simp only [ups, List.getElem_cons_succ]
    rw [ups_at n (a + 1) i (by simpa [ups] using h)]
    omega
theorem set_over {β : Type} {L l : List β} {i : Nat} (h : i < L.length) (hl : l.length = L.length) : (L.take i ++ l.drop i).set i L[i] = L.take (i + 1) ++ l.drop (i + 1) := by
  have h' : i < l.length := by omega
  rw [List.drop_eq_getElem_cons h', List.set_append_right _ _ (by simp; omega), List.length_take, Nat.min_eq_left (by omega), Nat.sub_self, List.set_cons_zero, List.take_succ_eq_append_getElem h, List.append_assoc]
  rfl
theorem mark_l (l : List Int) (a : Int) (h0 : 0 ≤ a) (h1 : a + l.length ≤ 4611686018427387904) : ∀ (d i : Nat), l.length - i = d → i ≤ l.length → Ev (fun k => laws_markIntS.l0 k ((ups a l.length).take i ++ l.drop i) (a + i) (i : Int)) (a + l.length, ups a l.length) := by
  intro d
  induction d with
  | zero =>
    intro i hd hi
    refine Ev.succ ?_
    simp only [laws_markIntS.l0]
    have e : (ups a l.length).take i ++ l.drop i = ups a l.length := by
      rw [List.drop_eq_nil_of_le (by omega), List.append_nil, List.take_of_length_le (by rw [ups_len]; omega)]
    rw [e]
    exact Ev.neg (by rw [ups_len]; omega) (Ev.some (by rw [show i = l.length by omega]))
  | succ d ih =>
    intro i hd hi
    refine Ev.succ ?_
    simp only [laws_markIntS.l0]
    have hu : i < (ups a l.length).length := by rw [ups_len]; omega
    refine Ev.pos (by simp [ups_len]; omega) (Ev.pos (by omega) ?_)
    have e := set_over hu (l := l) (by rw [ups_len])
    rw [ups_at l.length a i hu] at e
    rw [Int.toNat_natCast, e, up i (by omega : i < l.length) (by omega), wrap_id (by omega) (by omega), show a + (i : Int) + 1 = a + ((i + 1 : Nat) : Int) by omega]
    exact ih (i + 1) (by omega) (by omega)
theorem mark_ev (l : List Int) (a : Int) (h0 : 0 ≤ a) (h1 : a + l.length ≤ 4611686018427387904) : Ev (fun k => laws_markIntS.f k l a) (a + l.length, ups a l.length) := by
  unfold laws_markIntS.f
  have := mark_l l a h0 h1 l.length 0 (by omega) (by omega)
  simpa using this
theorem held_l (n : Nat) (a : Int) (h0 : 0 ≤ a) (h1 : a + n ≤ 4611686018427387904) : ∀ (d i : Nat), n - i = d → i ≤ n → Ev (fun k => laws_heldIntS.l0 k (ups a n) (a + i) (i : Int)) (a + n) := by
  intro d
  induction d with
  | zero =>
    intro i hd hi
    refine Ev.succ ?_
    simp only [laws_heldIntS.l0]
    exact Ev.neg (by rw [ups_len]; omega) (Ev.some (by rw [show i = n by omega]))
  | succ d ih =>
    intro i hd hi
    refine Ev.succ ?_
    simp only [laws_heldIntS.l0]
    have hu : i < (ups a n).length := by rw [ups_len]; omega
    refine Ev.pos (by omega) (Ev.pos (by omega) ?_)
    rw [rd_at hu, ups_at n a i hu, up i (by omega : i < n) (by omega), wrap_id (by omega) (by omega), show a + (i : Int) + 1 = a + ((i + 1 : Nat) : Int) by omega]
    exact Ev.pos rfl (ih (i + 1) (by omega) (by omega))
theorem held_ev (n : Nat) (a : Int) (h0 : 0 ≤ a) (h1 : a + n ≤ 4611686018427387904) : Ev (fun k => laws_heldIntS.f k (ups a n) a) (a + n) := by
  unfold laws_heldIntS.f
  have := held_l n a h0 h1 n 0 (by omega) (by omega)
  simpa using this
/-! ### the plain steps of lengths -/
def stepsM : List Int → List Int
  | [] => []
  | d :: ds => (if 1 < d then prod ds else 0) :: stepsM ds
theorem stepsM_len : ∀ l : List Int, (stepsM l).length = l.length
  | [] => rfl
  | _ :: ds => by simp [stepsM, stepsM_len ds]
theorem run_mono : ∀ {l : List Int} {m n : Int}, 1 ≤ m → m ≤ n → runOk n l = true → runOk m l = true
  | [], _, _, _, _, _ => rfl
  | d :: ds, m, n, h0, h1, h => by
    obtain ⟨h2, h3, h4, h5⟩ := runOk_cons h
    have p : m * d ≤ n * d := Int.mul_le_mul_of_nonneg_right h1 (by omega)
    have p0 : 1 * 1 ≤ m * d := Int.mul_le_mul h0 h2 (by omega) (by omega)
    unfold runOk
    rw [if_neg (by omega), if_neg (by omega), if_neg (by omega)]
    exact run_mono (by omega) p h5
theorem run_drop : ∀ {l : List Int} (i : Nat), runOk 1 l = true → runOk 1 (l.drop i) = true
  | [], i, _ => by simp [runOk]
  | d :: ds, 0, h => h
  | d :: ds, i + 1, h => by
    obtain ⟨h2, h3, h4, h5⟩ := runOk_cons h
    rw [List.drop_succ_cons]
    exact run_drop i (run_mono (by omega) (by omega) h5)
theorem prod_le {l : List Int} (h : runOk 1 l = true) (i : Nat) : 1 ≤ prod (l.drop i) ∧ prod (l.drop i) ≤ 4096 := by
  have r := run_drop i h
  have := run_prod (n := 1) (by omega) (by omega) r
  exact ⟨prod_pos r, by omega⟩
theorem steps_l (l : List Int) (hn : l.length ≤ 6) (hr : runOk 1 l = true) : ∀ (i : Nat), i ≤ l.length →
    Ev (fun k => impl_steps.l0 k l (List.replicate i 0 ++ stepsM (l.drop i)) (prod (l.drop i)) ((i : Int) - 1)) (stepsM l) := by
  intro i
  induction i with
  | zero =>
    intro hi
    refine Ev.succ ?_
    simp only [impl_steps.l0]
    refine Ev.neg (by omega) (Ev.some ?_)
    simp
  | succ i ih =>
    intro hi
    have hlt : i < l.length := by omega
    have hdi := run_all hr _ (List.getElem_mem hlt)
    have p1 := prod_le hr (i + 1)
    have p2 : prod (l.drop (i + 1)) * l[i] ≤ 4096 * 4096 := Int.mul_le_mul p1.2 hdi.2 (by omega) (by omega)
    have p3 : 0 ≤ prod (l.drop (i + 1)) * l[i] := Int.mul_nonneg (by omega) (by omega)
    refine Ev.succ ?_
    simp only [impl_steps.l0]
    have e1 : ((i + 1 : Nat) : Int) - 1 = (i : Int) := by omega
    have ih := ih (by omega)
    have e3 : List.replicate (i + 1) (0 : Int) = List.replicate i 0 ++ [0] := List.replicate_succ'
    rw [e1, rd_at hlt, wrap_id (by omega : -9223372036854775808 ≤ prod (l.drop (i + 1)) * l[i]) (by omega), wrap_id (by omega : -9223372036854775808 ≤ (i : Int) - 1) (by omega), Int.mul_comm]
    rw [drop_at hlt] at ih
    simp only [stepsM, prod] at ih
    refine Ev.pos (by omega) (Ev.pos (by omega) (Ev.pos (by omega) (Ev.ite (fun h => ?_) (fun h => ?_))))
    · rw [if_pos h] at ih
      refine Ev.pos (by simp [stepsM_len]; omega) ?_
      rw [Int.toNat_natCast, e3, List.append_assoc, List.set_append_right _ _ (by simp)]
      simpa using ih
    · rw [if_neg h] at ih
      rw [e3, List.append_assoc]
      exact ih
theorem steps_ev (l : List Int) (hn : l.length ≤ 6) (hr : runOk 1 l = true) : Ev (fun k => impl_steps.f k l) (stepsM l) := by
  unfold impl_steps.f
  refine Ev.pos (by omega) (Ev.pos (by omega) ?_)
  have := steps_l l hn hr l.length (by omega)
  rw [List.drop_length] at this
  simp only [stepsM, prod, List.append_nil] at this
  rw [wrap_id (by omega) (by omega)]
  exact this
theorem product_l (l : List Int) (hn : l.length ≤ 9223372036854775807) : ∀ (d i : Nat) (n : Int), l.length - i = d → i ≤ l.length → 1 ≤ n → n ≤ 4096 → runOk n (l.drop i) = true → Ev (fun k => impl_product.l0 k n l (l.length : Int) (i : Int)) (n * prod (l.drop i)) := by
  intro d
  induction d with
  | zero =>
    intro i n hd hi h0 h1 hr
    refine Ev.succ ?_
    simp only [impl_product.l0]
    refine Ev.neg (by omega) (Ev.some ?_)
    rw [List.drop_eq_nil_of_le (by omega)]
    simp [prod]
  | succ d ih =>
    intro i n hd hi h0 h1 hr
    have hlt : i < l.length := by omega
    rw [drop_at hlt] at hr ⊢
    obtain ⟨h2, h3, h4, h5⟩ := runOk_cons hr
    have p0 : 1 * 1 ≤ n * l[i] := Int.mul_le_mul h0 h2 (by omega) (by omega)
    refine Ev.succ ?_
    simp only [impl_product.l0]
    refine Ev.pos (by omega) (Ev.pos (by omega) (Ev.pos (by omega) ?_))
    rw [rd_at hlt, up i hlt hn, wrap_id (by omega : -9223372036854775808 ≤ n * l[i]) (by omega)]
    simp only [prod]
    rw [← Int.mul_assoc]
    exact ih (i + 1) _ (by omega) (by omega) (by omega) h4 h5
theorem product_ev (l : List Int) (hn : l.length ≤ 9223372036854775807) (hr : runOk 1 l = true) : Ev (fun k => impl_product.f k l) (prod l) := by
  have := product_l l hn l.length 0 1 (by omega) (by omega) (by omega) (by omega) hr
  rw [Int.one_mul] at this
  exact this
theorem clone_f (l : List Int) (h : l.length < 17592186044416) : slices_Clone_int_int.f l = some l := by
  unfold slices_Clone_int_int.f
  rw [if_pos h]
theorem l3Ints_f (l : List Int) (h : l.length < 17592186044416) : spec_l3Ints.f l = some l := by
  unfold spec_l3Ints.f
  simp only [Option.bind_some, List.nil_append]
  rw [if_pos (by simp; omega)]
/-! ### the whole view of the reference -/
def rawS : List Int → List Int
  | [] => []
  | _ :: ds => prod ds :: rawS ds
theorem rawS_len : ∀ l : List Int, (rawS l).length = l.length
  | [] => rfl
  | _ :: ds => by simp [rawS, rawS_len ds]
theorem rawS_at : ∀ (l : List Int) (i : Nat) (h : i < (rawS l).length), (rawS l)[i] = prod (l.drop (i + 1))
  | [], _, h => by simp [rawS] at h
  | _ :: ds, 0, _ => by simp [rawS]
  | _ :: ds, i + 1, h => by
    simp only [rawS, List.getElem_cons_succ, List.drop_succ_cons]
    exact rawS_at ds i (by simpa [rawS] using h)
theorem stepsM_at : ∀ (l : List Int) (i : Nat) (h : i < (stepsM l).length) (h' : i < l.length), (stepsM l)[i] = if 1 < l[i] then prod (l.drop (i + 1)) else 0
  | [], _, h, _ => by simp [stepsM] at h
  | _ :: ds, 0, _, _ => by simp [stepsM]
  | _ :: ds, i + 1, h, h' => by
    simp only [stepsM, List.getElem_cons_succ, List.drop_succ_cons]
    exact stepsM_at ds i (by simpa [stepsM] using h) (by simpa using h')
theorem plain_l (l : List Int) (off base : Int) (hn : l.length ≤ 6) (hr : runOk 1 l = true) : ∀ (d i : Nat), l.length - i = d → i ≤ l.length →
    Ev (fun k => spec_l3Plain.l0 k (i : Int) l ((stepsM l).take i ++ (rawS l).drop i) off base) (l, stepsM l, off, base) := by
  intro d
  induction d with
  | zero =>
    intro i hd hi
    refine Ev.succ ?_
    simp only [spec_l3Plain.l0]
    refine Ev.neg (by omega) (Ev.some ?_)
    rw [show (rawS l).drop i = [] from List.drop_eq_nil_of_le (by rw [rawS_len]; omega), List.append_nil, List.take_of_length_le (by rw [stepsM_len]; omega)]
  | succ d ih =>
    intro i hd hi
    have hlt : i < l.length := by omega
    have hs : i < (stepsM l).length := by rw [stepsM_len]; omega
    have hw : i < (rawS l).length := by rw [rawS_len]; omega
    have hdi := run_all hr _ (List.getElem_mem hlt)
    have e := stepsM_at l i hs hlt
    refine Ev.succ ?_
    simp only [spec_l3Plain.l0]
    refine Ev.pos (by omega) (Ev.pos (by omega) ?_)
    rw [rd_at hlt, up i hlt (by omega)]
    refine Ev.ite (fun h => ?_) (fun h => ?_)
    · refine Ev.pos (by simp [stepsM_len, rawS_len]; omega) ?_
      rw [if_neg (by omega)] at e
      have o := set_over hs (l := rawS l) (by rw [rawS_len, stepsM_len])
      rw [e] at o
      rw [Int.toNat_natCast, o]
      exact ih (i + 1) (by omega) (by omega)
    · rw [if_pos (by omega)] at e
      have o : (stepsM l).take i ++ (rawS l).drop i = (stepsM l).take (i + 1) ++ (rawS l).drop (i + 1) := by
        rw [drop_at hw, List.take_succ_eq_append_getElem hs, e, rawS_at l i hw, List.append_assoc]
        rfl
      rw [o]
      exact ih (i + 1) (by omega) (by omega)
theorem swhole_l (l : List Int) (off base : Int) (hn : l.length ≤ 6) (hr : runOk 1 l = true) : ∀ (d i : Nat), l.length - i = d → i ≤ l.length →
    Ev (fun k => spec_Whole.l0 k l (i : Int) l ((rawS l).take i) off base) (l, stepsM l, off, base) := by
  intro d
  induction d with
  | zero =>
    intro i hd hi
    refine Ev.succ ?_
    simp only [spec_Whole.l0]
    have p := plain_l l off base hn hr l.length 0 (by omega) (by omega)
    rw [List.take_zero, List.nil_append, List.drop_zero] at p
    refine Ev.neg (by omega) ?_
    rw [List.take_of_length_le (by rw [rawS_len]; omega)]
    exact Ev.bind (show Ev (fun k => spec_l3Plain.f k l (rawS l) off base) _ from p) (Ev.some rfl)
  | succ d ih =>
    intro i hd hi
    have hlt : i < l.length := by omega
    have hw : i < (rawS l).length := by rw [rawS_len]; omega
    refine Ev.succ ?_
    simp only [spec_Whole.l0]
    rw [up i hlt (by omega)]
    have e := size_ev (l.drop (i + 1)) (by rw [List.length_drop]; omega)
    rw [if_pos (run_drop (i + 1) hr)] at e
    refine Ev.pos (by omega) (Ev.pos (by omega) (Ev.pos (by omega) ?_))
    rw [Int.toNat_natCast]
    refine Ev.bind e (Ev.pos (by simp [rawS_len]; omega) ?_)
    have o := List.take_succ_eq_append_getElem hw
    rw [rawS_at l i hw] at o
    rw [← o]
    exact ih (i + 1) (by omega) (by omega)
theorem swhole_ev (l : List Int) (hn : l.length ≤ 9223372036854775807) : Ev (fun k => spec_Whole.f k l) (if dimsB l = true then (l, stepsM l, 0, prod l) else ([], [], 0, 0)) := by
  unfold spec_Whole.f
  refine Ev.bind (sdims_ev l hn) ?_
  refine Ev.ite (fun h => ?_) (fun h => ?_)
  · rw [if_pos h]
    unfold dimsB at h
    simp only [Bool.and_eq_true, decide_eq_true_eq] at h
    have e := size_ev l hn
    rw [if_pos h.2] at e
    exact Ev.b (l3Ints_f l (by omega)) (Ev.bind e (swhole_l l 0 (prod l) h.1 h.2 l.length 0 (by omega) (by omega)))
  · rw [if_neg h]
    exact Ev.some rfl
theorem iwhole_ev (l : List Int) (hn : l.length ≤ 9223372036854775807) : Ev (fun k => impl_Whole.f k l) (if dimsB l = true then (l, stepsM l, 0, prod l) else ([], [], 0, 0)) := by
  unfold impl_Whole.f
  refine Ev.bind (idims_ev l hn) ?_
  refine Ev.ite (fun h => ?_) (fun h => ?_)
  · rw [if_pos h]
    unfold dimsB at h
    simp only [Bool.and_eq_true, decide_eq_true_eq] at h
    exact Ev.b (clone_f l (by omega)) (Ev.bind (steps_ev l h.1 h.2) (Ev.bind (product_ev l hn h.2) (Ev.some rfl)))
  · rw [if_neg h]
    exact Ev.some rfl
theorem view_eq (a b : List Int) (o s : Int) (ha : a.length ≤ 1048576) (hb : b.length ≤ 1048576) : Ev (fun k => laws_eqView.f k a b o s a b o s) true := by
  unfold laws_eqView.f
  exact Ev.bind (eqIntS_ev a (by omega)) (Ev.pos rfl (Ev.bind (eqIntS_ev b (by omega)) (Ev.pos rfl (Ev.pos rfl (Ev.pos rfl (Ev.some rfl))))))
theorem rest (l a b : List Int) (o s : Int) (hl : l.length ≤ 1048576) (ha : a.length ≤ 1048576) (hb : b.length ≤ 1048576) (hi : Ev (fun k => impl_Whole.f k l) (a, b, o, s)) : Ev (fun k => laws_FnExactWhole.j0 k l false a b o s a b o s) true := by
  have m : Ev (fun k => laws_markView.f k a b o s 1) (1 + (a.length : Int) + b.length, ups 1 a.length, ups (1 + (a.length : Int)) b.length) := by
    unfold laws_markView.f
    exact Ev.bind (mark_ev a 1 (by omega) (by omega)) (Ev.bind (mark_ev b _ (by omega) (by omega)) (Ev.some rfl))
  have h : Ev (fun k => laws_heldView.f k (ups 1 a.length) (ups (1 + (a.length : Int)) b.length) o s 1) (1 + (a.length : Int) + b.length) := by
    unfold laws_heldView.f
    exact Ev.bind (held_ev a.length 1 (by omega) (by omega)) (Ev.neg (by omega) (Ev.bind (held_ev b.length _ (by omega) (by omega)) (Ev.neg (by omega) (Ev.some rfl))))
  refine Ev.succ ?_
  simp only [laws_FnExactWhole.j0]
  exact Ev.neg (by simp) (Ev.bind m (Ev.bind h (Ev.neg (by omega) (Ev.pos rfl (Ev.bind (toIntS_ev l (by omega)) (Ev.bind hi (Ev.bind (view_eq a b o s ha hb) (Ev.pos rfl (Ev.bind h (Ev.neg (by omega) (Ev.pos rfl (Ev.some rfl))))))))))))
theorem FnExactWhole (l : List Int) : ∃ k, laws_FnExactWhole.f k l = some true := by
  apply Ev.rounds
  unfold laws_FnExactWhole.f
  refine Ev.ite (fun _ => Ev.some rfl) (fun h => ?_)
  have t := toIntS_ev l (by omega)
  obtain ⟨a, b, o, s, hs, hi, ha, hb⟩ : ∃ a b o s, Ev (fun k => spec_Whole.f k l) (a, b, o, s) ∧ Ev (fun k => impl_Whole.f k l) (a, b, o, s) ∧ a.length ≤ 1048576 ∧ b.length ≤ 1048576 := by
    have hs := swhole_ev l (by omega)
    have hi := iwhole_ev l (by omega)
    by_cases hd : dimsB l = true
    · rw [if_pos hd] at hs hi
      exact ⟨_, _, _, _, hs, hi, by omega, by rw [stepsM_len]; omega⟩
    · rw [if_neg hd] at hs hi
      exact ⟨_, _, _, _, hs, hi, by simp, by simp⟩
  refine Ev.bind t (Ev.bind hs (Ev.bind t (Ev.bind hi (Ev.bind (view_eq a b o s ha hb) (Ev.pos rfl (Ev.bind t (Ev.bind (eqIntS_ev l (by omega)) (Ev.pos rfl (Ev.bind (mark_ev l 1 (by omega) (by omega)) (Ev.neg (by simp; omega) (Ev.bind (view_eq a b o s ha hb) ?_)))))))))))
  exact rest l a b o s (by omega) ha hb hi
end Go.Proofs.Ytajknaobbjlljaa.PureFnExactWhole
