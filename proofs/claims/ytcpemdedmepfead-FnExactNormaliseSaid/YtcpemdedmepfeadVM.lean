/- Plain facts on lengths, indexes in order, and places (numbers and lists alone). -/
import Derived.Test.YtcpemdedmepfeadBase
namespace Go.Proofs.Ytcpemdedmepfead.VM
open Go.RowKit Go.Proofs.YtcpemdedmepfeadW.PrintWords Go.Proofs.YtcpemdedmepfeadW.PrintMore Go.Proofs.Ytcpemdedmepfead.Base
/-- The product of lengths. -/
def prod : List Int → Int
  | [] => 1
  | d :: ds => d * prod ds
/-- Lengths that can be, from a running product on. -/
def runOk : Int → List Int → Bool
  | _, [] => true
  | n, d :: ds => if d < 1 then false else if 4096 < d then false else if 4096 < n * d then false else runOk (n * d) ds
theorem runOk_cons {n d : Int} {ds : List Int} (h : runOk n (d :: ds) = true) : 1 ≤ d ∧ d ≤ 4096 ∧ n * d ≤ 4096 ∧ runOk (n * d) ds = true := by
  unfold runOk at h
  split at h
  · cases h
  · split at h
    · cases h
    · split at h
      · cases h
      · exact ⟨by omega, by omega, by omega, h⟩
theorem prod_pos : ∀ {l : List Int} {n : Int}, runOk n l = true → 1 ≤ prod l
  | [], _, _ => by simp [prod]
  | d :: ds, n, h => by
    obtain ⟨h1, _, _, h4⟩ := runOk_cons h
    have := prod_pos h4
    have : d * 1 ≤ d * prod ds := Int.mul_le_mul_of_nonneg_left this (by omega)
    simp only [prod]
    omega
theorem run_prod : ∀ {l : List Int} {n : Int}, 1 ≤ n → n ≤ 4096 → runOk n l = true → n * prod l ≤ 4096
  | [], n, _, hn, _ => by simp [prod]; omega
  | d :: ds, n, h0, hn, h => by
    obtain ⟨h1, _, h3, h4⟩ := runOk_cons h
    have p : 1 * 1 ≤ n * d := Int.mul_le_mul h0 h1 (by omega) (by omega)
    have := run_prod (by omega) h3 h4
    simp only [prod]
    rw [← Int.mul_assoc]
    exact this
theorem run_all : ∀ {l : List Int} {n : Int}, runOk n l = true → ∀ d ∈ l, 1 ≤ d ∧ d ≤ 4096
  | [], _, _, d, hd => by simp at hd
  | e :: ds, n, h, d, hd => by
    obtain ⟨h1, h2, _, h4⟩ := runOk_cons h
    rcases List.mem_cons.1 hd with rfl | hd
    · exact ⟨h1, h2⟩
    · exact run_all h4 d hd
/-- The index of number k, and what is left of k. -/
def idxs : List Int → Int → List Int × Int
  | [], k => ([], k)
  | d :: ds, k => ((idxs ds k).2 % d :: (idxs ds k).1, (idxs ds k).2 / d)
/-- Where an index stands in order. -/
def ord : List Int → List Int → Int
  | _ :: ds, x :: xs => x * prod ds + ord ds xs
  | _, _ => 0
/-- An index within lengths. -/
def inD : List Int → List Int → Prop
  | [], [] => True
  | d :: ds, x :: xs => 0 ≤ x ∧ x < d ∧ inD ds xs
  | _, _ => False
theorem inD_len : ∀ {ds xs : List Int}, inD ds xs → xs.length = ds.length
  | [], [], _ => rfl
  | _ :: ds, _ :: xs, h => by simp [inD_len h.2.2]
  | [], _ :: _, h => h.elim
  | _ :: _, [], h => h.elim
theorem idxs_nonneg : ∀ {ds : List Int} {k : Int}, (∀ d ∈ ds, 1 ≤ d) → 0 ≤ k → 0 ≤ (idxs ds k).2
  | [], _, _, h => h
  | d :: ds, k, hd, h => Int.ediv_nonneg (idxs_nonneg (fun e he => hd e (List.mem_cons_of_mem _ he)) h) (by have := hd d List.mem_cons_self; omega)
theorem idxs_in : ∀ {ds : List Int} {k : Int}, (∀ d ∈ ds, 1 ≤ d) → 0 ≤ k → inD ds (idxs ds k).1
  | [], _, _, _ => trivial
  | d :: ds, k, hd, h => by
    have h1 := hd d List.mem_cons_self
    have h2 : ∀ e ∈ ds, 1 ≤ e := fun e he => hd e (List.mem_cons_of_mem _ he)
    exact ⟨Int.emod_nonneg _ (by omega), Int.emod_lt_of_pos _ (by omega), idxs_in h2 h⟩
theorem idxs_len (ds : List Int) (k : Int) : (idxs ds k).1.length = ds.length := by
  induction ds with
  | nil => rfl
  | cons d ds ih => simp [idxs, ih]
theorem idxs_ord : ∀ {ds xs : List Int} (q : Int), (∀ d ∈ ds, 1 ≤ d) → inD ds xs → idxs ds (q * prod ds + ord ds xs) = (xs, q)
  | [], [], q, _, _ => by simp [idxs, prod, ord]
  | d :: ds, x :: xs, q, hd, h => by
    have h2 : ∀ e ∈ ds, 1 ≤ e := fun e he => hd e (List.mem_cons_of_mem _ he)
    obtain ⟨h3, h4, h5⟩ := h
    have e : q * prod (d :: ds) + ord (d :: ds) (x :: xs) = (q * d + x) * prod ds + ord ds xs := by
      simp only [prod, ord]
      rw [Int.add_mul, Int.mul_assoc, Int.add_assoc]
    have ih := idxs_ord (q * d + x) h2 h5
    rw [e]
    simp only [idxs, ih]
    have r1 : (q * d + x) % d = x := by
      rw [Int.add_comm, Int.add_mul_emod_self_right]
      exact Int.emod_eq_of_lt h3 h4
    have r2 : (q * d + x) / d = q := by
      rw [Int.add_comm, Int.add_mul_ediv_right _ _ (by omega), Int.ediv_eq_zero_of_lt h3 h4, Int.zero_add]
    rw [r1, r2]
  | [], _ :: _, _, _, h => h.elim
  | _ :: _, [], _, _, h => h.elim
theorem ord_lt : ∀ {ds xs : List Int}, (∀ d ∈ ds, 1 ≤ d) → inD ds xs → 0 ≤ ord ds xs ∧ ord ds xs < prod ds
  | [], [], _, _ => by simp [ord, prod]
  | d :: ds, x :: xs, hd, h => by
    have h2 : ∀ e ∈ ds, 1 ≤ e := fun e he => hd e (List.mem_cons_of_mem _ he)
    obtain ⟨h3, h4, h5⟩ := h
    obtain ⟨i1, i2⟩ := ord_lt h2 h5
    simp only [ord, prod]
    have p1 : 0 ≤ x * prod ds := Int.mul_nonneg h3 (by omega)
    have p2 : (x + 1) * prod ds ≤ d * prod ds := Int.mul_le_mul_of_nonneg_right (by omega) (by omega)
    rw [Int.add_mul, Int.one_mul] at p2
    omega
  | [], _ :: _, _, h => h.elim
  | _ :: _, [], _, h => h.elim
theorem ord_idxs : ∀ {ds : List Int} {k : Int}, (∀ d ∈ ds, 1 ≤ d) → 0 ≤ k → (idxs ds k).2 * prod ds + ord ds (idxs ds k).1 = k
  | [], k, _, _ => by simp [idxs, prod, ord]
  | d :: ds, k, hd, h => by
    have h2 : ∀ e ∈ ds, 1 ≤ e := fun e he => hd e (List.mem_cons_of_mem _ he)
    have ih := ord_idxs h2 h
    have e := Int.mul_ediv_add_emod (idxs ds k).2 d
    simp only [idxs, prod, ord]
    have : (idxs ds k).2 / d * (d * prod ds) + ((idxs ds k).2 % d * prod ds + ord ds (idxs ds k).1) = (d * ((idxs ds k).2 / d) + (idxs ds k).2 % d) * prod ds + ord ds (idxs ds k).1 := by
      rw [Int.add_mul, Int.add_assoc, ← Int.mul_assoc, Int.mul_comm d]
    rw [this, e]
    exact ih
theorem idxs_top {ds : List Int} {k : Int} (hd : ∀ d ∈ ds, 1 ≤ d) (h : 0 ≤ k) (hk : k < prod ds) : (idxs ds k).2 = 0 ∧ ord ds (idxs ds k).1 = k := by
  have e := ord_idxs hd h
  have n := idxs_nonneg hd h
  obtain ⟨o1, o2⟩ := ord_lt hd (idxs_in hd h)
  by_cases h0 : (idxs ds k).2 = 0
  · rw [h0] at e
    exact ⟨h0, by omega⟩
  · have : 1 * prod ds ≤ (idxs ds k).2 * prod ds := Int.mul_le_mul_of_nonneg_right (by omega) (by omega)
    omega
/-! ### places -/
/-- The way from the first place. -/
def dot : List Int → List Int → Int
  | x :: xs, s :: ss => x * s + dot xs ss
  | _, _ => 0
def loS : List Int → List Int → Int
  | d :: ds, s :: ss => mn 0 (s * (d - 1)) + loS ds ss
  | _, _ => 0
def hiS : List Int → List Int → Int
  | d :: ds, s :: ss => mx 0 (s * (d - 1)) + hiS ds ss
  | _, _ => 0
theorem one_way {x d s : Int} (h0 : 0 ≤ x) (h1 : x < d) : mn 0 (s * (d - 1)) ≤ x * s ∧ x * s ≤ mx 0 (s * (d - 1)) := by
  rw [Int.mul_comm x s]
  unfold mn mx
  by_cases h : 0 ≤ s
  · have p1 : s * x ≤ s * (d - 1) := Int.mul_le_mul_of_nonneg_left (by omega) h
    have p2 : 0 ≤ s * x := Int.mul_nonneg h h0
    constructor <;> split <;> omega
  · have p1 : s * (d - 1) ≤ s * x := Int.mul_le_mul_of_nonpos_left (by omega) (by omega)
    have p2 : s * x ≤ 0 := Int.mul_nonpos_of_nonpos_of_nonneg (by omega) h0
    constructor <;> split <;> omega
theorem dot_between : ∀ {ds xs ss : List Int}, inD ds xs → loS ds ss ≤ dot xs ss ∧ dot xs ss ≤ hiS ds ss
  | [], [], ss, _ => by simp [loS, dot, hiS]
  | d :: ds, x :: xs, [], _ => by simp [loS, dot, hiS]
  | d :: ds, x :: xs, s :: ss, h => by
    obtain ⟨h3, h4, h5⟩ := h
    have i := dot_between (ss := ss) h5
    have o := one_way (s := s) h3 h4
    simp only [loS, dot, hiS]
    omega
  | [], _ :: _, _, h => h.elim
  | _ :: _, [], _, h => h.elim
theorem lo_at : ∀ (ds ss : List Int), (∀ d ∈ ds, 1 ≤ d) → ∃ xs, inD ds xs ∧ dot xs ss = loS ds ss
  | [], ss, _ => ⟨[], trivial, by simp [dot, loS]⟩
  | d :: ds, [], hd => by
    obtain ⟨xs, h, _⟩ := lo_at ds [] (fun e he => hd e (List.mem_cons_of_mem _ he))
    exact ⟨0 :: xs, ⟨by omega, by have := hd d List.mem_cons_self; omega, h⟩, by simp [dot, loS]⟩
  | d :: ds, s :: ss, hd => by
    have h1 := hd d List.mem_cons_self
    obtain ⟨xs, h, e⟩ := lo_at ds ss (fun e he => hd e (List.mem_cons_of_mem _ he))
    by_cases h0 : 0 ≤ s * (d - 1)
    · refine ⟨0 :: xs, ⟨by omega, by omega, h⟩, ?_⟩
      simp only [dot, loS, e, mn]
      rw [if_neg (by omega)]
      omega
    · refine ⟨(d - 1) :: xs, ⟨by omega, by omega, h⟩, ?_⟩
      simp only [dot, loS, e, mn]
      rw [if_pos (by omega), Int.mul_comm]
theorem hi_at : ∀ (ds ss : List Int), (∀ d ∈ ds, 1 ≤ d) → ∃ xs, inD ds xs ∧ dot xs ss = hiS ds ss
  | [], ss, _ => ⟨[], trivial, by simp [dot, hiS]⟩
  | d :: ds, [], hd => by
    obtain ⟨xs, h, _⟩ := hi_at ds [] (fun e he => hd e (List.mem_cons_of_mem _ he))
    exact ⟨0 :: xs, ⟨by omega, by have := hd d List.mem_cons_self; omega, h⟩, by simp [dot, hiS]⟩
  | d :: ds, s :: ss, hd => by
    have h1 := hd d List.mem_cons_self
    obtain ⟨xs, h, e⟩ := hi_at ds ss (fun e he => hd e (List.mem_cons_of_mem _ he))
    by_cases h0 : s * (d - 1) ≤ 0
    · refine ⟨0 :: xs, ⟨by omega, by omega, h⟩, ?_⟩
      simp only [dot, hiS, e, mx]
      rw [if_neg (by omega)]
      omega
    · refine ⟨(d - 1) :: xs, ⟨by omega, by omega, h⟩, ?_⟩
      simp only [dot, hiS, e, mx]
      rw [if_pos (by omega), Int.mul_comm]
/-- The place of number k. -/
def plc (ds ss : List Int) (o : Int) (k : Nat) : Int := o + dot (idxs ds (k : Int)).1 ss
/-- All places, in order. -/
def plcs (ds ss : List Int) (o : Int) : List Int := (List.range (prod ds).toNat).map (plc ds ss o)
theorem all_places (ds ss : List Int) (o b : Int) (hd : ∀ d ∈ ds, 1 ≤ d) : (∀ p ∈ plcs ds ss o, 0 ≤ p ∧ p < b) ↔ (0 ≤ o + loS ds ss ∧ o + hiS ds ss < b) := by
  have key : ∀ xs, inD ds xs → o + dot xs ss ∈ plcs ds ss o := by
    intro xs h
    obtain ⟨o1, o2⟩ := ord_lt hd h
    refine List.mem_map.2 ⟨(ord ds xs).toNat, List.mem_range.2 (by omega), ?_⟩
    unfold plc
    rw [Int.toNat_of_nonneg o1]
    have e := idxs_ord 0 hd h
    rw [Int.zero_mul, Int.zero_add] at e
    rw [e]
  constructor
  · intro h
    obtain ⟨xs, h1, e1⟩ := lo_at ds ss hd
    obtain ⟨ys, h2, e2⟩ := hi_at ds ss hd
    have r1 := h _ (key xs h1)
    have r2 := h _ (key ys h2)
    omega
  · intro h p hp
    obtain ⟨k, _, rfl⟩ := List.mem_map.1 hp
    have := dot_between (ss := ss) (idxs_in hd (Int.natCast_nonneg k))
    unfold plc
    omega
/-! ### the plain steps of lengths -/
def stepsM : List Int → List Int
  | [] => []
  | d :: ds => (if 1 < d then prod ds else 0) :: stepsM ds
theorem stepsM_len : ∀ l : List Int, (stepsM l).length = l.length
  | [] => rfl
  | _ :: ds => by simp [stepsM, stepsM_len ds]
theorem run_mono : ∀ {l : List Int} {m n : Int}, 1 ≤ m → m ≤ n → runOk n l = true → runOk m l = true
  | [], _, _, _, _, _ => rfl
  | d :: ds, m, n, h0, h1, h => by
    obtain ⟨h2, h3, h4, h5⟩ := runOk_cons h
    have p : m * d ≤ n * d := Int.mul_le_mul_of_nonneg_right h1 (by omega)
    have p0 : 1 * 1 ≤ m * d := Int.mul_le_mul h0 h2 (by omega) (by omega)
    unfold runOk
    rw [if_neg (by omega), if_neg (by omega), if_neg (by omega)]
    exact run_mono (by omega) p h5
theorem run_drop : ∀ {l : List Int} (i : Nat), runOk 1 l = true → runOk 1 (l.drop i) = true
  | [], i, _ => by simp [runOk]
  | d :: ds, 0, h => h
  | d :: ds, i + 1, h => by
    obtain ⟨h2, h3, h4, h5⟩ := runOk_cons h
    rw [List.drop_succ_cons]
    exact run_drop i (run_mono (by omega) (by omega) h5)
theorem prod_le {l : List Int} (h : runOk 1 l = true) (i : Nat) : 1 ≤ prod (l.drop i) ∧ prod (l.drop i) ≤ 4096 := by
  have r := run_drop i h
  have := run_prod (n := 1) (by omega) (by omega) r
  exact ⟨prod_pos r, by omega⟩
def rawS : List Int → List Int
  | [] => []
  | _ :: ds => prod ds :: rawS ds
theorem rawS_len : ∀ l : List Int, (rawS l).length = l.length
  | [] => rfl
  | _ :: ds => by simp [rawS, rawS_len ds]
theorem rawS_at : ∀ (l : List Int) (i : Nat) (h : i < (rawS l).length), (rawS l)[i] = prod (l.drop (i + 1))
  | [], _, h => by simp [rawS] at h
  | _ :: ds, 0, _ => by simp [rawS]
  | _ :: ds, i + 1, h => by
    simp only [rawS, List.getElem_cons_succ, List.drop_succ_cons]
    exact rawS_at ds i (by simpa [rawS] using h)
theorem stepsM_at : ∀ (l : List Int) (i : Nat) (h : i < (stepsM l).length) (h' : i < l.length), (stepsM l)[i] = if 1 < l[i] then prod (l.drop (i + 1)) else 0
  | [], _, h, _ => by simp [stepsM] at h
  | _ :: ds, 0, _, _ => by simp [stepsM]
  | _ :: ds, i + 1, h, h' => by
    simp only [stepsM, List.getElem_cons_succ, List.drop_succ_cons]
    exact stepsM_at ds i (by simpa [stepsM] using h) (by simpa using h')
end Go.Proofs.Ytcpemdedmepfead.VM
