/- The pure statement of FnExactSlotCost: program and reference agree on what slots cost. -/
import Derived.Test.YtpoblnigmfbnfacPFnExactSlotCostx
import Derived.Test.YtpoblnigmfbnfacBase

namespace Go.Proofs.Ytpoblnigmfbnfac.PureFnExactSlotCost
set_option linter.unusedVariables false
set_option linter.unusedSimpArgs false
open Go.RowKit Go.Proofs.Ytpoblnigmfbnfac.PFnExactSlotCost Go.Proofs.YtpoblnigmfbnfacW.PrintWords Go.Proofs.YtpoblnigmfbnfacW.PrintLast Go.Proofs.YtpoblnigmfbnfacW.PrintMore Go.Proofs.Ytpoblnigmfbnfac.Base 
/-! ### the plain law of slots -/
abbrev Ky := Int × Int × Bool
abbrev Sl := Int × Ky
def whenF : List Sl → Ky → Int
  | [], _ => -1
  | x :: l, k => if x.2 = k then x.1 else whenF l k
def keysOf (s m : Nat) : List Ky := (List.range s).flatMap fun (k : Nat) => (List.range m).flatMap fun (i : Nat) => [((k : Int), (i : Int), false), ((k : Int), (i : Int), true)]
theorem nodup_of_sub {a b : List Ky} (ha : a.Nodup) (h : a ⊆ b) (hl : b.length ≤ a.length) : b.Nodup := by
  -- if b has a repeat, striking it leaves a in a shorter list
  induction b generalizing a with
  | nil => exact List.nodup_nil
  | cons x l ih =>
    by_cases hx : x ∈ l
    · have : a ⊆ l := fun y hy => by
        rcases List.mem_cons.1 (h hy) with rfl | h1
        · exact hx
        · exact h1
      have := ha.length_le_of_subset this
      simp at hl
      omega
    · refine List.nodup_cons.2 ⟨hx, ih (a := a.erase x) (ha.erase x) (fun y hy => ?_) ?_⟩
      · have h1 := (ha.mem_erase_iff).1 hy
        rcases List.mem_cons.1 (h h1.2) with rfl | h2
        · exact absurd rfl h1.1
        · exact h2
      · have := List.length_erase_le (a := x) (l := a)
        rw [List.length_erase]
        simp at hl
        split <;> omega
theorem sub_of_nodup {a b : List Ky} (ha : a.Nodup) (h : a ⊆ b) (hl : b.length ≤ a.length) : b ⊆ a := by
  intro x hx
  by_cases hxa : x ∈ a
  · exact hxa
  · have h1 : a ⊆ b.erase x := fun y hy => (List.mem_erase_of_ne (by rintro rfl; exact hxa hy)).2 (h hy)
    have h2 := ha.length_le_of_subset h1
    rw [List.length_erase_of_mem hx] at h2
    have := List.length_pos_of_mem hx
    omega
theorem mem_keysOf {s m : Nat} {k i : Int} {b : Bool} : (k, i, b) ∈ keysOf s m ↔ (0 ≤ k ∧ k < s) ∧ (0 ≤ i ∧ i < m) := by
  simp only [keysOf, List.mem_flatMap, List.mem_range, List.mem_cons, Prod.mk.injEq, List.not_mem_nil, or_false]
  constructor
  · rintro ⟨k', hk, i', hi, (⟨rfl, rfl, rfl⟩ | ⟨rfl, rfl, rfl⟩)⟩ <;> omega
  · rintro ⟨⟨h1, h2⟩, h3, h4⟩
    refine ⟨k.toNat, by omega, i.toNat, by omega, ?_⟩
    cases b
    · exact .inl ⟨by omega, by omega, rfl⟩
    · exact .inr ⟨by omega, by omega, rfl⟩
theorem length_flat (f : Nat → List Ky) (c : Nat) : ∀ n, (∀ i, (f i).length = c) → ((List.range n).flatMap f).length = n * c
  | 0, _ => by simp
  | n + 1, h => by
    rw [List.range_succ, List.flatMap_append, List.length_append, length_flat f c n h]
    simp [h, Nat.add_mul]
theorem length_keysOf (s m : Nat) : (keysOf s m).length = s * (m * 2) :=
  length_flat _ _ _ (fun _ => length_flat _ _ _ (fun _ => rfl))
theorem nodup_flat (f : Nat → List Ky) : ∀ n, (∀ i, i < n → (f i).Nodup) → (∀ i j x, i < n → j < n → x ∈ f i → x ∈ f j → i = j) → ((List.range n).flatMap f).Nodup
  | 0, _, _ => by simp
  | n + 1, h1, h2 => by
    rw [List.range_succ, List.flatMap_append]
    refine List.nodup_append.2 ⟨nodup_flat f n (fun i hi => h1 i (by omega)) (fun i j x hi hj => h2 i j x (by omega) (by omega)), by simpa using h1 n (by omega), ?_⟩
    intro a ha b hb e
    subst e
    obtain ⟨i, hi, hai⟩ := List.mem_flatMap.1 ha
    have hb' : a ∈ f n := by simpa using hb
    have := h2 i n a (by have := List.mem_range.1 hi; omega) (by omega) hai hb'
    have := List.mem_range.1 hi
    omega
theorem nodup_keysOf (s m : Nat) : (keysOf s m).Nodup := by
  refine nodup_flat _ _ (fun k _ => nodup_flat _ _ (fun i _ => by simp) (fun i j x _ _ hi hj => ?_)) (fun i j x _ _ hi hj => ?_)
  · simp at hi hj
    rcases hi with rfl | rfl <;> rcases hj with h | h <;> simp at h <;> omega
  · obtain ⟨p, hp, h1⟩ := List.mem_flatMap.1 hi
    obtain ⟨q, hq, h2⟩ := List.mem_flatMap.1 hj
    simp at h1 h2
    rcases h1 with rfl | rfl <;> rcases h2 with h | h <;> simp at h <;> omega
theorem when_none {l : List Sl} {k : Ky} (h : k ∉ l.map (·.2)) : whenF l k = -1 := by
  induction l with
  | nil => rfl
  | cons x l ih =>
    simp at h
    simp only [whenF]
    rw [if_neg (fun e => h.1 e.symm)]
    exact ih (by simpa using h.2)
theorem when_mem {l : List Sl} {k : Ky} (h : k ∈ l.map (·.2)) : ∃ t, (t, k) ∈ l ∧ whenF l k = t := by
  induction l with
  | nil => simp at h
  | cons x l ih =>
    simp only [whenF]
    by_cases e : x.2 = k
    · rw [if_pos e]
      exact ⟨x.1, by subst e; simp, rfl⟩
    · rw [if_neg e]
      have h1 : k ∈ l.map (·.2) := by
        simp only [List.map_cons, List.mem_cons] at h
        rcases h with h | h
        · exact absurd h.symm e
        · exact h
      obtain ⟨t, h2, h3⟩ := ih h1
      exact ⟨t, List.mem_cons_of_mem _ h2, h3⟩
theorem when_eq {l : List Sl} (hn : (l.map (·.2)).Nodup) {t : Int} {k : Ky} (h : (t, k) ∈ l) : whenF l k = t := by
  induction l with
  | nil => simp at h
  | cons x l ih =>
    simp only [List.map_cons, List.nodup_cons] at hn
    simp only [whenF]
    rcases List.mem_cons.1 h with h1 | h1
    · subst h1
      simp
    · rw [if_neg (fun e => hn.1 (by subst e; exact List.mem_map.2 ⟨_, h1, rfl⟩))]
      exact ih hn.2 h1
def aheadOf (s : Int) (k : Ky) : Option Ky := if k.2.2 = false then (if 0 < k.1 then some (k.1 - 1, k.2.1, false) else none) else if k.1 = s - 1 then some (k.1, k.2.1, false) else some (k.1 + 1, k.2.1, true)
def Prog (s m : Nat) (l : List Sl) : Prop := (l.map (·.2)).Nodup ∧ ∀ x ∈ l, ∀ a, aheadOf s x.2 = some a → (if a ∈ l.map (·.2) then whenF l a else 0) < x.1
def Ref (s m : Nat) (l : List Sl) : Prop := ∀ k i : Int, 0 ≤ k → k < s → 0 ≤ i → i < m →
  0 ≤ whenF l (k, i, false) ∧ 0 ≤ whenF l (k, i, true) ∧ (0 < k → whenF l (k - 1, i, false) < whenF l (k, i, false)) ∧ (k = s - 1 → whenF l (k, i, false) < whenF l (k, i, true)) ∧ (k < s - 1 → whenF l (k + 1, i, true) < whenF l (k, i, true))
theorem prog_ref {s m : Nat} {l : List Sl} (hl : l.length = 2 * s * m) (hw : ∀ x ∈ l, 0 ≤ x.1 ∧ (0 ≤ x.2.1 ∧ x.2.1 < s) ∧ (0 ≤ x.2.2.1 ∧ x.2.2.1 < m)) : Prog s m l ↔ Ref s m l := by
  have hsub : l.map (·.2) ⊆ keysOf s m := fun k hk => by
    obtain ⟨x, hx, rfl⟩ := List.mem_map.1 hk
    obtain ⟨t, k, i, b⟩ := x
    exact mem_keysOf.2 (hw _ hx).2
  have hlen : (l.map (·.2)).length = (keysOf s m).length := by
    rw [List.length_map, hl, length_keysOf, Nat.mul_comm 2 s, Nat.mul_assoc, Nat.mul_comm 2 m]
  constructor
  · rintro ⟨hn, ha⟩ k i hk0 hk1 hi0 hi1
    have hall := sub_of_nodup hn hsub (by omega)
    have hin : ∀ k i b, 0 ≤ k → k < (s : Int) → 0 ≤ i → i < (m : Int) → (k, i, b) ∈ l.map (·.2) := fun k i b h1 h2 h3 h4 => hall (mem_keysOf.2 ⟨⟨h1, h2⟩, h3, h4⟩)
    have hpos : ∀ k i b, 0 ≤ k → k < (s : Int) → 0 ≤ i → i < (m : Int) → 0 ≤ whenF l (k, i, b) := fun k i b h1 h2 h3 h4 => by
      obtain ⟨t, h5, h6⟩ := when_mem (hin k i b h1 h2 h3 h4)
      rw [h6]
      exact (hw _ h5).1
    have hahead : ∀ k i b a, 0 ≤ k → k < (s : Int) → 0 ≤ i → i < (m : Int) → aheadOf s (k, i, b) = some a → a ∈ l.map (·.2) → whenF l a < whenF l (k, i, b) := fun k i b a h1 h2 h3 h4 h5 h6 => by
      obtain ⟨t, h7, h8⟩ := when_mem (hin k i b h1 h2 h3 h4)
      rw [h8]
      have := ha _ h7 a h5
      rwa [if_pos h6] at this
    refine ⟨hpos _ _ _ hk0 hk1 hi0 hi1, hpos _ _ _ hk0 hk1 hi0 hi1, fun h => ?_, fun h => ?_, fun h => ?_⟩
    · exact hahead k i false _ hk0 hk1 hi0 hi1 (by simp [aheadOf, h]) (hin _ _ _ (by omega) (by omega) hi0 hi1)
    · exact hahead k i true _ hk0 hk1 hi0 hi1 (by simp [aheadOf, h]) (hin _ _ _ hk0 hk1 hi0 hi1)
    · exact hahead k i true _ hk0 hk1 hi0 hi1 (by have hne : ¬ k = (s : Int) - 1 := (by omega); simp [aheadOf, hne]) (hin _ _ _ (by omega) (by omega) hi0 hi1)
  · intro hr
    have hall : keysOf s m ⊆ l.map (·.2) := fun x hx => by
      obtain ⟨k, i, b⟩ := x
      obtain ⟨⟨h1, h2⟩, h3, h4⟩ := mem_keysOf.1 hx
      refine Decidable.byContradiction fun hne => ?_
      have h5 := when_none hne
      have h6 := hr k i h1 h2 h3 h4
      cases b
      · omega
      · omega
    have hn := nodup_of_sub (nodup_keysOf s m) hall (by omega)
    refine ⟨hn, fun x hx a h => ?_⟩
    obtain ⟨t, k, i, b⟩ := x
    obtain ⟨h0, ⟨h1, h2⟩, h3, h4⟩ := hw _ hx
    have hin : ∀ k i b, 0 ≤ k → k < (s : Int) → 0 ≤ i → i < (m : Int) → (k, i, b) ∈ l.map (·.2) := fun k i b h1 h2 h3 h4 => hall (mem_keysOf.2 ⟨⟨h1, h2⟩, h3, h4⟩)
    have hr1 := hr k i h1 h2 h3 h4
    have ht : whenF l (k, i, b) = t := when_eq hn hx
    show (if a ∈ l.map (·.2) then whenF l a else 0) < t
    replace h1 : 0 ≤ k := h1
    replace h2 : k < s := h2
    replace h3 : 0 ≤ i := h3
    replace h4 : i < m := h4
    replace h : aheadOf s (k, i, b) = some a := h
    cases b with
    | false =>
      by_cases h7 : 0 < k
      · simp [aheadOf, h7] at h
        subst h
        rw [if_pos (hin _ _ _ (by omega) (by omega) h3 h4)]
        have := hr1.2.2.1 h7
        omega
      · simp [aheadOf, h7] at h
    | true =>
      by_cases h7 : k = (s : Int) - 1
      · simp [aheadOf, h7] at h
        subst h
        rw [if_pos (hin _ _ _ (by omega) (by omega) h3 h4)]
        have := hr1.2.2.2.1 h7
        rw [h7] at this ht
        omega
      · simp [aheadOf, h7] at h
        subst h
        rw [if_pos (hin _ _ _ (by omega) (by omega) h3 h4)]
        have := hr1.2.2.2.2 (by omega)
        omega
/-! ### the plain law of what slots cost -/
def lt2 (x y : Sl) : Prop := x.1 < y.1 ∨ x.1 = y.1 ∧ x.2.1 < y.2.1
def stp (k : Int) (hm : Int × Int) (x : Sl) : Int × Int := if x.2.1 = k then (if x.2.2.2 = false then (hm.1 + 1, max hm.2 (hm.1 + 1)) else (hm.1 - 1, hm.2)) else hm
def isF (k : Int) (b : Bool) (x : Sl) : Bool := decide (x.2.1 = k ∧ x.2.2.2 = b)
def cnt (l : List Sl) (m : Nat) (k t : Int) : Nat := (List.range m).countP fun (i : Nat) => decide (whenF l (k, (i : Int), false) ≤ t ∧ t ≤ whenF l (k, (i : Int), true))
theorem fold1 (k : Int) : ∀ (p : List Sl) (a : Int × Int), (p.foldl (stp k) a).1 = a.1 + (p.countP (isF k false) : Int) - (p.countP (isF k true) : Int)
  | [], a => by simp
  | x :: p, a => by
    rw [List.foldl_cons, fold1 k p, List.countP_cons, List.countP_cons]
    unfold stp isF
    by_cases h : x.2.1 = k
    · cases hb : x.2.2.2 <;> simp [h] <;> omega
    · simp [h]
theorem fold2_le (k : Int) : ∀ (p : List Sl) (a : Int × Int), a.2 ≤ (p.foldl (stp k) a).2
  | [], a => by simp
  | x :: p, a => by
    rw [List.foldl_cons]
    refine Int.le_trans ?_ (fold2_le k p _)
    unfold stp
    split
    · split
      · exact Int.le_max_left _ _
      · exact Int.le_refl _
    · exact Int.le_refl _
theorem fold2_ge (k : Int) (p r : List Sl) (x : Sl) (hx : isF k false x = true) (a : Int × Int) : ((p ++ [x]).foldl (stp k) a).1 ≤ ((p ++ x :: r).foldl (stp k) a).2 := by
  rw [show p ++ x :: r = (p ++ [x]) ++ r by simp, List.foldl_append (l := p ++ [x])]
  refine Int.le_trans ?_ (fold2_le k r _)
  rw [List.foldl_append, List.foldl_cons, List.foldl_nil]
  simp [isF] at hx
  unfold stp
  rw [if_pos hx.1, if_pos hx.2]
  exact Int.le_max_right _ _
theorem fold2_or (k : Int) : ∀ (p : List Sl) (a : Int × Int), (p.foldl (stp k) a).2 = a.2 ∨ ∃ q x r, p = q ++ x :: r ∧ isF k false x = true ∧ (p.foldl (stp k) a).2 = ((q ++ [x]).foldl (stp k) a).1
  | [], a => .inl rfl
  | x :: p, a => by
    rw [List.foldl_cons]
    rcases fold2_or k p (stp k a x) with h | ⟨q, y, r, rfl, hy, h⟩
    · rw [h]
      by_cases hx : isF k false x = true
      · have hx' := hx
        simp [isF] at hx'
        by_cases hm : a.2 ≤ a.1 + 1
        · refine .inr ⟨[], x, p, rfl, hx, ?_⟩
          simp only [List.nil_append, List.foldl_cons, List.foldl_nil]
          unfold stp
          rw [if_pos hx'.1, if_pos hx'.2]
          exact Int.max_eq_right hm
        · refine .inl ?_
          unfold stp
          rw [if_pos hx'.1, if_pos hx'.2]
          exact Int.max_eq_left (by omega)
      · refine .inl ?_
        simp [isF] at hx
        unfold stp
        by_cases h1 : x.2.1 = k
        · rw [if_pos h1, if_neg (by simpa using hx h1)]
        · rw [if_neg h1]
    · exact .inr ⟨x :: q, y, r, rfl, hy, by rw [h]; simp⟩
theorem countP_split {α : Type} (A B : α → Bool) : ∀ l : List α, (∀ i ∈ l, B i = true → A i = true) → l.countP (fun i => A i && !B i) + l.countP B = l.countP A
  | [], _ => rfl
  | x :: l, h => by
    have ih := countP_split A B l (fun i hi => h i (List.mem_cons_of_mem _ hi))
    have hx := h x (by simp)
    rw [List.countP_cons, List.countP_cons, List.countP_cons]
    cases hA : A x <;> cases hB : B x <;> simp_all <;> omega
theorem count_in {m : Nat} {k : Int} {b : Bool} {p : List Sl} (hn : (p.map (·.2)).Nodup) (hw : ∀ x ∈ p, 0 ≤ x.2.2.1 ∧ x.2.2.1 < m) :
    (List.range m).countP (fun (i : Nat) => decide ((k, (i : Int), b) ∈ p.map (·.2))) = p.countP (isF k b) := by
  have e1 : (List.range m).countP (fun (i : Nat) => decide ((k, (i : Int), b) ∈ p.map (·.2))) = (((List.range m).filter (fun (i : Nat) => decide ((k, (i : Int), b) ∈ p.map (·.2)))).map fun i : Nat => (k, (i : Int), b)).length := by
    rw [List.length_map, List.countP_eq_length_filter]
  have e2 : p.countP (isF k b) = ((p.filter (isF k b)).map (·.2)).length := by
    rw [List.length_map, List.countP_eq_length_filter]
  rw [e1, e2]
  have n1 : (((List.range m).filter (fun (i : Nat) => decide ((k, (i : Int), b) ∈ p.map (·.2)))).map fun i : Nat => (k, (i : Int), b)).Nodup := by
    refine List.pairwise_map.2 (((List.nodup_range (n := m)).sublist List.filter_sublist).imp ?_)
    intro a c hac e
    simp at e
    omega
  have n2 : ((p.filter (isF k b)).map (·.2)).Nodup := hn.sublist (List.filter_sublist.map _)
  refine Nat.le_antisymm (n1.length_le_of_subset ?_) (n2.length_le_of_subset ?_)
  · intro y hy
    obtain ⟨i, hi, rfl⟩ := List.mem_map.1 hy
    have h1 := (List.mem_filter.1 hi).2
    simp only [decide_eq_true_eq] at h1
    obtain ⟨x, hx, hxe⟩ := List.mem_map.1 h1
    exact List.mem_map.2 ⟨x, List.mem_filter.2 ⟨hx, by simp [isF, hxe]⟩, hxe⟩
  · intro y hy
    obtain ⟨x, hx, rfl⟩ := List.mem_map.1 hy
    obtain ⟨hx1, hx2⟩ := List.mem_filter.1 hx
    simp [isF] at hx2
    have := hw x hx1
    refine List.mem_map.2 ⟨x.2.2.1.toNat, List.mem_filter.2 ⟨List.mem_range.2 (by omega), ?_⟩, ?_⟩
    · simp only [decide_eq_true_eq]
      refine List.mem_map.2 ⟨x, hx1, ?_⟩
      rw [Int.toNat_of_nonneg this.1, ← hx2.1, ← hx2.2]
    · rw [Int.toNat_of_nonneg this.1, ← hx2.1, ← hx2.2]
/-- What the program holds when a stage has gone forward is what the reference counts at that time. -/
theorem held_is {s m : Nat} {l : List Sl} (hl : l.length = 2 * s * m) (hw : ∀ x ∈ l, 0 ≤ x.1 ∧ (0 ≤ x.2.1 ∧ x.2.1 < s) ∧ (0 ≤ x.2.2.1 ∧ x.2.2.1 < m)) (hs : l.Pairwise lt2) (hr : Ref s m l)
    {p r : List Sl} {x : Sl} (e : l = p ++ x :: r) {k : Int} (hx : isF k false x = true) : ((p ++ [x]).foldl (stp k) (0, 0)).1 = (cnt l m k x.1 : Int) := by
  have hP := (prog_ref hl hw).2 hr
  have hn := hP.1
  have hx' := hx
  simp [isF] at hx'
  have hxl : x ∈ l := by rw [e]; simp
  have hk := hw x hxl
  have hpx : ∀ y ∈ p, lt2 y x := fun y hy => by
    rw [e] at hs
    exact (List.pairwise_append.1 hs).2.2 y hy x (by simp)
  have hxr : ∀ y ∈ r, lt2 x y := fun y hy => by
    rw [e] at hs
    exact (List.pairwise_cons.1 (List.pairwise_append.1 hs).2.1).1 y hy
  have hsub : p ++ [x] ⊆ l := fun y hy => by
    rw [e]
    simp at hy ⊢
    rcases hy with h | h
    · exact .inl h
    · exact .inr (.inl h)
  have hn1 : ((p ++ [x]).map (·.2)).Nodup := by
    rw [e, show p ++ x :: r = (p ++ [x]) ++ r by simp, List.map_append] at hn
    exact (List.nodup_append.1 hn).1
  have hn0 : (p.map (·.2)).Nodup := by
    rw [List.map_append] at hn1
    exact (List.nodup_append.1 hn1).1
  have hin : ∀ (i : Nat) (b : Bool), i < m → ∃ t, (t, k, (i : Int), b) ∈ l ∧ whenF l (k, (i : Int), b) = t := fun i b hi => by
    have h1 := hr k i (by omega) (by omega) (by omega) (by omega)
    have : (k, (i : Int), b) ∈ l.map (·.2) := by
      refine Decidable.byContradiction fun hne => ?_
      have := when_none hne
      cases b
      · omega
      · omega
    obtain ⟨t, h2, h3⟩ := when_mem this
    exact ⟨t, h2, h3⟩
  have hF : ∀ i : Nat, i < m → (whenF l (k, (i : Int), false) ≤ x.1 ↔ (k, (i : Int), false) ∈ (p ++ [x]).map (·.2)) := fun i hi => by
    obtain ⟨t, h1, h2⟩ := hin i false hi
    rw [h2]
    constructor
    · intro ht
      rw [e, show p ++ x :: r = (p ++ [x]) ++ r by simp] at h1
      rcases List.mem_append.1 h1 with h3 | h3
      · exact List.mem_map.2 ⟨_, h3, rfl⟩
      · rcases hxr _ h3 with h4 | h4
        · simp only at h4; omega
        · have := h4.2; rw [hx'.1] at this; simp only at this; omega
    · intro h3
      obtain ⟨y, h4, h5⟩ := List.mem_map.1 h3
      have h6 : (y.1, k, (i : Int), false) ∈ l := by rw [← h5]; exact hsub h4
      have h7 := when_eq hn h6
      rw [h2] at h7
      subst h7
      rcases List.mem_append.1 h4 with h8 | h8
      · rcases hpx _ h8 with h9 | h9
        · omega
        · omega
      · simp at h8
        subst h8
        exact Int.le_refl _
  have hT : ∀ i : Nat, i < m → (whenF l (k, (i : Int), true) < x.1 ↔ (k, (i : Int), true) ∈ p.map (·.2)) := fun i hi => by
    obtain ⟨t, h1, h2⟩ := hin i true hi
    rw [h2]
    constructor
    · intro ht
      rw [e] at h1
      rcases List.mem_append.1 h1 with h3 | h3
      · exact List.mem_map.2 ⟨_, h3, rfl⟩
      · rcases List.mem_cons.1 h3 with h4 | h4
        · subst h4; simp at hx'
        · rcases hxr _ h4 with h5 | h5
          · simp only at h5; omega
          · have := h5.1; simp only at this; omega
    · intro h3
      obtain ⟨y, h4, h5⟩ := List.mem_map.1 h3
      have h6 : (y.1, k, (i : Int), true) ∈ l := by rw [← h5]; exact hsub (List.mem_append_left _ h4)
      have h7 := when_eq hn h6
      rw [h2] at h7
      subst h7
      rcases hpx _ h4 with h9 | h9
      · exact h9
      · have := h9.2
        rw [h5, hx'.1] at this
        simp only at this
        omega
  have hfb : ∀ i : Nat, i < m → whenF l (k, (i : Int), false) < whenF l (k, (i : Int), true) := fun i hi => by
    -- from the last stage down
    have key : ∀ (d : Nat) (k : Int), 0 ≤ k → k < s → (s : Int) - 1 - k = d → whenF l (k, (i : Int), false) < whenF l (k, (i : Int), true) := by
      intro d
      induction d with
      | zero =>
        intro k h1 h2 h3
        exact (hr k i h1 h2 (by omega) (by omega)).2.2.2.1 (by omega)
      | succ d ih =>
        intro k h1 h2 h3
        have h4 := ih (k + 1) (by omega) (by omega) (by omega)
        have h5 := (hr k i h1 h2 (by omega) (by omega)).2.2.2.2 (by omega)
        have h6 := (hr (k + 1) i (by omega) (by omega) (by omega) (by omega)).2.2.1 (by omega)
        rw [show k + 1 - 1 = k by omega] at h6
        omega
    exact key ((s : Int) - 1 - k).toNat k (by omega) (by omega) (by omega)
  rw [fold1]
  have c1 := count_in (m := m) (k := k) (b := false) hn1 (fun y hy => (hw y (hsub hy)).2.2)
  have c2 := count_in (m := m) (k := k) (b := true) hn0 (fun y hy => (hw y (hsub (List.mem_append_left _ hy))).2.2)
  have c3 : (p ++ [x]).countP (isF k true) = p.countP (isF k true) := by
    rw [List.countP_append]
    simp [isF, hx'.2]
  have c4 := countP_split (fun i : Nat => decide ((k, (i : Int), false) ∈ (p ++ [x]).map (·.2))) (fun i : Nat => decide ((k, (i : Int), true) ∈ p.map (·.2))) (List.range m) (fun i hi h => by
    have hi' := List.mem_range.1 hi
    simp only [decide_eq_true_eq] at h ⊢
    have := (hT i hi').2 h
    have := hfb i hi'
    exact (hF i hi').1 (by omega))
  have c5 : cnt l m k x.1 = (List.range m).countP (fun i : Nat => decide ((k, (i : Int), false) ∈ (p ++ [x]).map (·.2)) && !decide ((k, (i : Int), true) ∈ p.map (·.2))) := by
    unfold cnt
    refine List.countP_congr fun i hi => ?_
    have hi' := List.mem_range.1 hi
    have h1 := hF i hi'
    have h2 := hT i hi'
    simp only [decide_eq_true_eq, Bool.and_eq_true, Bool.not_eq_true', decide_eq_false_iff_not]
    constructor
    · rintro ⟨h3, h4⟩
      exact ⟨h1.1 h3, fun h5 => by have := h2.2 h5; omega⟩
    · rintro ⟨h3, h4⟩
      refine ⟨h1.2 h3, ?_⟩
      by_cases h5 : whenF l (k, (i : Int), true) < x.1
      · exact absurd (h2.1 h5) h4
      · omega
  rw [c3, ← c1, ← c2, c5]
  simp only
  omega
theorem max_fold (f : Sl → Int) : ∀ (l : List Sl) (a : Int), a ≤ l.foldl (fun mo x => if f x > mo then f x else mo) a ∧ (∀ x ∈ l, f x ≤ l.foldl (fun mo x => if f x > mo then f x else mo) a) ∧ (l.foldl (fun mo x => if f x > mo then f x else mo) a = a ∨ ∃ x ∈ l, l.foldl (fun mo x => if f x > mo then f x else mo) a = f x)
  | [], a => ⟨Int.le_refl _, by simp, .inl rfl⟩
  | y :: l, a => by
    obtain ⟨h1, h2, h3⟩ := max_fold f l (if f y > a then f y else a)
    simp only [List.foldl_cons]
    refine ⟨?_, fun x hx => ?_, ?_⟩
    · split at h1 <;> split <;> first | omega | (simp_all; omega)
    · rcases List.mem_cons.1 hx with rfl | hx
      · refine Int.le_trans ?_ h1
        split <;> omega
      · exact h2 x hx
    · rcases h3 with h3 | ⟨x, hx, h3⟩
      · rw [h3]
        split
        · exact .inr ⟨y, by simp, rfl⟩
        · exact .inl rfl
      · exact .inr ⟨x, List.mem_cons_of_mem _ hx, h3⟩
theorem cnt_pos_mem {l : List Sl} {m : Nat} {k t : Int} (h : 0 < cnt l m k t) : ∃ i : Nat, i < m ∧ whenF l (k, (i : Int), false) ≤ t := by
  unfold cnt at h
  obtain ⟨i, hi, h1⟩ := List.countP_pos_iff.1 h
  simp at h1
  exact ⟨i, List.mem_range.1 hi, h1.1⟩
theorem last_le {l : List Sl} (Q : Sl → Bool) {x : Sl} (hx : x ∈ l) (hq : Q x = true) : ∃ y ∈ l, Q y = true ∧ ∀ z ∈ l, Q z = true → z.1 ≤ y.1 := by
  induction l generalizing x with
  | nil => simp at hx
  | cons a l ih =>
    by_cases h : ∃ z ∈ l, Q z = true
    · obtain ⟨z, hz, hzq⟩ := h
      obtain ⟨y, hy, hyq, hall⟩ := ih hz hzq
      by_cases hc : Q a = true ∧ y.1 < a.1
      · refine ⟨a, by simp, hc.1, fun z hz hzq => ?_⟩
        rcases List.mem_cons.1 hz with rfl | hz
        · exact Int.le_refl _
        · have := hall z hz hzq
          omega
      · refine ⟨y, List.mem_cons_of_mem _ hy, hyq, fun z hz hzq => ?_⟩
        rcases List.mem_cons.1 hz with rfl | hz
        · by_cases h1 : y.1 < z.1
          · exact absurd ⟨hzq, h1⟩ hc
          · omega
        · exact hall z hz hzq
    · have ha : Q a = true := by
        rcases List.mem_cons.1 hx with rfl | hx
        · exact hq
        · exact absurd ⟨x, hx, hq⟩ h
      refine ⟨a, by simp, ha, fun z hz hzq => ?_⟩
      rcases List.mem_cons.1 hz with rfl | hz
      · exact Int.le_refl _
      · exact absurd ⟨z, hz, hzq⟩ h
theorem most_is {s m : Nat} {l : List Sl} (hl : l.length = 2 * s * m) (hw : ∀ x ∈ l, 0 ≤ x.1 ∧ (0 ≤ x.2.1 ∧ x.2.1 < s) ∧ (0 ≤ x.2.2.1 ∧ x.2.2.1 < m)) (hs : l.Pairwise lt2) (hr : Ref s m l) {k : Int} (hk : 0 ≤ k ∧ k < s) :
    (l.foldl (stp k) (0, 0)).2 = l.foldl (fun mo x => if (cnt l m k x.1 : Int) > mo then (cnt l m k x.1 : Int) else mo) 0 := by
  obtain ⟨m1, m2, m3⟩ := max_fold (fun x => (cnt l m k x.1 : Int)) l 0
  have hn := ((prog_ref hl hw).2 hr).1
  refine Int.le_antisymm ?_ ?_
  · rcases fold2_or k l (0, 0) with h | ⟨q, x, r, e, hx, h⟩
    · rw [h]
      exact m1
    · rw [h, held_is hl hw hs hr e hx]
      exact m2 x (by rw [e]; simp)
  · rcases m3 with h | ⟨x, hx, h⟩
    · rw [h]
      exact fold2_le k l (0, 0)
    · rw [h]
      by_cases h0 : 0 < cnt l m k x.1
      · obtain ⟨i, hi, hit⟩ := cnt_pos_mem h0
        have hri := hr k i hk.1 hk.2 (by omega) (by omega)
        have hmem : (k, (i : Int), false) ∈ l.map (·.2) := Decidable.byContradiction fun hne => by
          have := when_none hne
          omega
        obtain ⟨t, ht, hte⟩ := when_mem hmem
        obtain ⟨y, hy, hyq, hall⟩ := last_le (fun z => isF k false z && decide (z.1 ≤ x.1)) ht (by simp [isF]; omega)
        simp only [Bool.and_eq_true, decide_eq_true_eq] at hyq hall
        obtain ⟨p, r, e⟩ := List.append_of_mem hy
        have h1 := held_is hl hw hs hr e hyq.1
        have h2 := fold2_ge k p r y hyq.1 (0, 0)
        rw [← e, h1] at h2
        refine Int.le_trans ?_ h2
        have : cnt l m k x.1 ≤ cnt l m k y.1 := by
          unfold cnt
          refine List.countP_mono_left fun j hj hj2 => ?_
          simp only [decide_eq_true_eq] at hj2 ⊢
          have hj' := List.mem_range.1 hj
          have hrj := hr k j hk.1 hk.2 (by omega) (by omega)
          have hmj : (k, (j : Int), false) ∈ l.map (·.2) := Decidable.byContradiction fun hne => by
            have := when_none hne
            omega
          obtain ⟨tj, htj, htej⟩ := when_mem hmj
          have := hall _ htj ⟨by simp [isF], by simp only; omega⟩
          simp only at this
          omega
        omega
      · have h3 := fold2_le k l (0, 0)
        simp only at h3
        omega
theorem eqIntS_l (l : List Int) (hn : l.length ≤ 9223372036854775807) : ∀ (d i : Nat), l.length - i = d → i ≤ l.length → Ev (fun k => laws_eqIntS.l0 k l l (i : Int)) true := by
  intro d
  induction d with
  | zero =>
    intro i hd hi
    refine Ev.succ ?_
    simp only [laws_eqIntS.l0]
    exact Ev.neg (by omega) (Ev.some rfl)
  | succ d ih =>
    intro i hd hi
    refine Ev.succ ?_
    simp only [laws_eqIntS.l0]
    have hlt : i < l.length := by omega
    refine Ev.pos (by omega) (Ev.pos (by omega) (Ev.pos (by omega) (Ev.pos (by trivial) ?_)))
    rw [up i hlt hn]
    exact ih (i + 1) (by omega) (by omega)
theorem eqIntS_ev (l : List Int) (h : l.length ≤ 9223372036854775807) : Ev (fun k => laws_eqIntS.f k l l) true := by
  unfold laws_eqIntS.f
  exact Ev.pos rfl (eqIntS_l l (by omega) l.length 0 (by omega) (by omega))
/-! ### marks: written into what was made, and found there again -/
def ups (a : Int) : Nat → List Int
  | 0 => []
  | n + 1 => a :: ups (a + 1) n
theorem ups_len : ∀ (n : Nat) (a : Int), (ups a n).length = n
  | 0, _ => rfl
  | n + 1, a => by simp [ups, ups_len n]
theorem ups_at : ∀ (n : Nat) (a : Int) (i : Nat) (h : i < (ups a n).length), (ups a n)[i] = a + i
  | 0, _, _, h => by simp [ups] at h
  | n + 1, a, 0, _ => by simp [ups]
  | n + 1, a, i + 1, h => by
    simp only [ups, List.getElem_cons_succ]
    rw [ups_at n (a + 1) i (by simpa [ups] using h)]
    omega
theorem set_over {β : Type} {L l : List β} {i : Nat} (h : i < L.length) (hl : l.length = L.length) : (L.take i ++ l.drop i).set i L[i] = L.take (i + 1) ++ l.drop (i + 1) := by
  have h' : i < l.length := by omega
  rw [List.drop_eq_getElem_cons h', List.set_append_right _ _ (by simp; omega), List.length_take, Nat.min_eq_left (by omega), Nat.sub_self, List.set_cons_zero, List.take_succ_eq_append_getElem h, List.append_assoc]
  rfl
theorem mark_l (l : List Int) (a : Int) (h0 : 0 ≤ a) (h1 : a + l.length ≤ 4611686018427387904) : ∀ (d i : Nat), l.length - i = d → i ≤ l.length → Ev (fun k => laws_markIntS.l0 k ((ups a l.length).take i ++ l.drop i) (a + i) (i : Int)) (a + l.length, ups a l.length) := by
  intro d
  induction d with
  | zero =>
    intro i hd hi
    refine Ev.succ ?_
    simp only [laws_markIntS.l0]
    have e : (ups a l.length).take i ++ l.drop i = ups a l.length := by
      rw [List.drop_eq_nil_of_le (by omega), List.append_nil, List.take_of_length_le (by rw [ups_len]; omega)]
    rw [e]
    exact Ev.neg (by rw [ups_len]; omega) (Ev.some (by rw [show i = l.length by omega]))
  | succ d ih =>
    intro i hd hi
    refine Ev.succ ?_
    simp only [laws_markIntS.l0]
    have hu : i < (ups a l.length).length := by rw [ups_len]; omega
    refine Ev.pos (by simp [ups_len]; omega) (Ev.pos (by omega) ?_)
    have e := set_over hu (l := l) (by rw [ups_len])
    rw [ups_at l.length a i hu] at e
    rw [Int.toNat_natCast, e, up i (by omega : i < l.length) (by omega), wrap_id (by omega) (by omega), show a + (i : Int) + 1 = a + ((i + 1 : Nat) : Int) by omega]
    exact ih (i + 1) (by omega) (by omega)
theorem mark_ev (l : List Int) (a : Int) (h0 : 0 ≤ a) (h1 : a + l.length ≤ 4611686018427387904) : Ev (fun k => laws_markIntS.f k l a) (a + l.length, ups a l.length) := by
  unfold laws_markIntS.f
  have := mark_l l a h0 h1 l.length 0 (by omega) (by omega)
  simpa using this
theorem held_l (n : Nat) (a : Int) (h0 : 0 ≤ a) (h1 : a + n ≤ 4611686018427387904) : ∀ (d i : Nat), n - i = d → i ≤ n → Ev (fun k => laws_heldIntS.l0 k (ups a n) (a + i) (i : Int)) (a + n) := by
  intro d
  induction d with
  | zero =>
    intro i hd hi
    refine Ev.succ ?_
    simp only [laws_heldIntS.l0]
    exact Ev.neg (by rw [ups_len]; omega) (Ev.some (by rw [show i = n by omega]))
  | succ d ih =>
    intro i hd hi
    refine Ev.succ ?_
    simp only [laws_heldIntS.l0]
    have hu : i < (ups a n).length := by rw [ups_len]; omega
    refine Ev.pos (by omega) (Ev.pos (by omega) ?_)
    rw [rd_at hu, ups_at n a i hu, up i (by omega : i < n) (by omega), wrap_id (by omega) (by omega), show a + (i : Int) + 1 = a + ((i + 1 : Nat) : Int) by omega]
    exact Ev.pos rfl (ih (i + 1) (by omega) (by omega))
theorem held_ev (n : Nat) (a : Int) (h0 : 0 ≤ a) (h1 : a + n ≤ 4611686018427387904) : Ev (fun k => laws_heldIntS.f k (ups a n) a) (a + n) := by
  unfold laws_heldIntS.f
  have := held_l n a h0 h1 n 0 (by omega) (by omega)
  simpa using this
/-! ### slots taken over and held against each other -/
theorem atS {l : List S82} {i : Nat} (h : i < l.length) : rd_T82 l (i : Int) = l[i] := getD_at h
theorem atL {l : List S85} {i : Nat} (h : i < l.length) : rd_T85 l (i : Int) = l[i] := getD_at h
def convS (x : S85) : S82 := ⟨x.f0, x.f1, x.f2, x.f3⟩
theorem toS_l (l : List S85) (hn : l.length ≤ 9223372036854775807) : ∀ (d i : Nat), l.length - i = d → i ≤ l.length → Ev (fun k => laws_toSlotS.l0 k l ((l.map convS).take i ++ List.replicate ((l.map convS).length - i) z82) (i : Int)) (l.map convS) := by
  intro d
  induction d with
  | zero =>
    intro i hd hi
    refine Ev.succ ?_
    simp only [laws_toSlotS.l0]
    refine Ev.neg (by omega) (Ev.some ?_)
    rw [List.length_map, hd, List.take_of_length_le (by simp; omega)]
    simp
  | succ d ih =>
    intro i hd hi
    refine Ev.succ ?_
    simp only [laws_toSlotS.l0]
    have hlt : i < l.length := by omega
    have hlt' : i < (l.map convS).length := by simpa using hlt
    refine Ev.pos (by omega) (Ev.pos (by omega) ?_)
    simp only [laws_toSlot.f, Option.bind_some]
    refine Ev.pos (by simp; omega) ?_
    rw [atL hlt, up i hlt hn, Int.toNat_natCast]
    have := set_fill (z := z82) hlt'
    rw [show (⟨l[i].f0, l[i].f1, l[i].f2, l[i].f3⟩ : S82) = (l.map convS)[i] by rw [List.getElem_map]; rfl, this]
    exact ih (i + 1) (by omega) (by omega)
theorem toS_ev (l : List S85) (h : l.length ≤ 8796093022208) : Ev (fun k => laws_toSlotS.f k l) (l.map convS) := by
  unfold laws_toSlotS.f
  refine Ev.pos (by omega) (Ev.pos (by omega) ?_)
  have := toS_l l (by omega) l.length 0 (by omega) (by omega)
  simpa using this
theorem eqS_l (l : List S82) (hn : l.length ≤ 9223372036854775807) : ∀ (d i : Nat), l.length - i = d → i ≤ l.length → Ev (fun k => laws_eqSlotS.l0 k l l (i : Int)) true := by
  intro d
  induction d with
  | zero =>
    intro i hd hi
    refine Ev.succ ?_
    simp only [laws_eqSlotS.l0]
    exact Ev.neg (by omega) (Ev.some rfl)
  | succ d ih =>
    intro i hd hi
    refine Ev.succ ?_
    simp only [laws_eqSlotS.l0]
    have hlt : i < l.length := by omega
    refine Ev.pos (by omega) (Ev.pos (by omega) (Ev.pos (by omega) (Ev.b (a := true) (by simp [laws_eqSlot.f]) (Ev.pos rfl ?_))))
    rw [up i hlt hn]
    exact ih (i + 1) (by omega) (by omega)
theorem eqS_ev (l : List S82) (h : l.length ≤ 8796093022208) : Ev (fun k => laws_eqSlotS.f k l l) true := by
  unfold laws_eqSlotS.f
  exact Ev.pos rfl (eqS_l l (by omega) l.length 0 (by omega) (by omega))
/-! ### which slots are right -/
theorem within_f (a b c : Int) : impl_within.f a b c = some (decide (b ≤ a) && decide (a ≤ c)) := by
  unfold impl_within.f
  by_cases h : b ≤ a
  · rw [if_pos (show a ≥ b from h)]
    simp [h]
  · rw [if_neg (show ¬ a ≥ b from h)]
    simp [h]
theorem l5In_f (a b c : Int) : spec_l5In.f a b c = some (decide (b ≤ a) && decide (a ≤ c)) := within_f a b c
def tup (x : S82) : Sl := (x.f0, x.f1, x.f2, x.f3)
def allUp (p : Nat → Bool) : Nat → Nat → Bool
  | 0, _ => true
  | d + 1, i => p i && allUp p d (i + 1)
theorem allUp_iff (p : Nat → Bool) : ∀ d i, allUp p d i = true ↔ ∀ j, i ≤ j → j < i + d → p j = true
  | 0, i => by simp [allUp]; omega
  | d + 1, i => by
    simp only [allUp, Bool.and_eq_true, allUp_iff p d (i + 1)]
    constructor
    · rintro ⟨h1, h2⟩ j hj hj2
      by_cases e : j = i
      · subst e; exact h1
      · exact h2 j (by omega) (by omega)
    · exact fun h => ⟨h i (by omega) (by omega), fun j hj hj2 => h j (by omega) (by omega)⟩
theorem when_l (l : List S82) (hn : l.length ≤ 9223372036854775807) (a b : Int) (c : Bool) : ∀ (d i : Nat), l.length - i = d → i ≤ l.length → Ev (fun k => spec_l19When.l0 k l a b c (i : Int)) (whenF ((l.drop i).map tup) (a, b, c)) := by
  intro d
  induction d with
  | zero =>
    intro i hd hi
    refine Ev.succ ?_
    simp only [spec_l19When.l0]
    refine Ev.neg (by omega) (Ev.some ?_)
    rw [List.drop_eq_nil_of_le (by omega)]
    rfl
  | succ d ih =>
    intro i hd hi
    refine Ev.succ ?_
    simp only [spec_l19When.l0]
    have hlt : i < l.length := by omega
    refine Ev.pos (by omega) (Ev.pos (by omega) ?_)
    rw [atS hlt, up i hlt hn, drop_at hlt, List.map_cons]
    have hw : whenF (tup l[i] :: (l.drop (i + 1)).map tup) (a, b, c) = if l[i].f1 = a then (if l[i].f2 = b then (if (l[i].f3 == c) = true then l[i].f0 else whenF ((l.drop (i + 1)).map tup) (a, b, c)) else whenF ((l.drop (i + 1)).map tup) (a, b, c)) else whenF ((l.drop (i + 1)).map tup) (a, b, c) := by
      simp only [whenF, tup, Prod.mk.injEq]
      by_cases h1 : l[i].f1 = a <;> by_cases h2 : l[i].f2 = b <;> by_cases h3 : l[i].f3 = c <;> simp [h1, h2, h3]
    rw [hw]
    have rest := ih (i + 1) (by omega) (by omega)
    refine Ev.ite (fun h1 => ?_) (fun h1 => ?_)
    · rw [if_pos h1]
      refine Ev.ite (fun h2 => ?_) (fun h2 => ?_)
      · rw [if_pos h2]
        refine Ev.ite (fun h3 => ?_) (fun h3 => ?_)
        · rw [if_pos h3]
          exact Ev.some rfl
        · rw [if_neg h3]
          exact rest
      · rw [if_neg h2]
        exact rest
    · rw [if_neg h1]
      exact rest
theorem when_ev (l : List S82) (hn : l.length ≤ 9223372036854775807) (a b : Int) (c : Bool) : Ev (fun k => spec_l19When.f k l a b c) (whenF (l.map tup) (a, b, c)) := by
  unfold spec_l19When.f
  have := when_l l hn a b c l.length 0 (by omega) (by omega)
  simpa using this
/-- The reference's question of a stage and a micro. -/
def condB (P : List Sl) (s k i : Nat) : Bool :=
  decide (0 ≤ whenF P ((k : Int), (i : Int), false)) && decide (0 ≤ whenF P ((k : Int), (i : Int), true)) && (!decide (0 < k) || decide (whenF P ((k : Int) - 1, (i : Int), false) < whenF P ((k : Int), (i : Int), false)))
    && (!decide ((k : Int) = (s : Int) - 1) || decide (whenF P ((k : Int), (i : Int), false) < whenF P ((k : Int), (i : Int), true))) && (!decide ((k : Int) < (s : Int) - 1) || decide (whenF P ((k : Int) + 1, (i : Int), true) < whenF P ((k : Int), (i : Int), true)))
theorem j5_ev (l : List S82) (hn : l.length ≤ 9223372036854775807) {s m k i : Nat} (hs : s ≤ 32) (hk : k < s) (hi : i < m) (hm : m ≤ 32) {v : Bool} (hv : Ev (fun n => spec_SlotsOk.l2 n l (s : Int) (m : Int) (k : Int) ((i + 1 : Nat) : Int)) v) (x : Bool) :
    Ev (fun n => spec_SlotsOk.j5 n l (s : Int) (m : Int) (k : Int) (i : Int) (whenF (l.map tup) ((k : Int), (i : Int), false)) (whenF (l.map tup) ((k : Int), (i : Int), true)) x)
      (!x && (!decide ((k : Int) = (s : Int) - 1) || decide (whenF (l.map tup) ((k : Int), (i : Int), false) < whenF (l.map tup) ((k : Int), (i : Int), true))) && (!decide ((k : Int) < (s : Int) - 1) || decide (whenF (l.map tup) ((k : Int) + 1, (i : Int), true) < whenF (l.map tup) ((k : Int), (i : Int), true))) && v) := by
  refine Ev.succ ?_
  simp only [spec_SlotsOk.j5]
  cases x with
  | true => exact Ev.pos rfl (Ev.some (by simp))
  | false =>
    refine Ev.neg (by simp) ?_
    have e1 : wrap64 ((s : Int) - 1) = (s : Int) - 1 := by rw [wrap_id] <;> omega
    have e2 : wrap64 ((k : Int) + 1) = (k : Int) + 1 := by rw [wrap_id] <;> omega
    have e3 : wrap64 ((i : Int) + 1) = ((i + 1 : Nat) : Int) := by rw [wrap_id] <;> omega
    rw [e1, e2, e3]
    have w := when_ev l hn ((k : Int) + 1) (i : Int) true
    refine Ev.ite (fun h1 => ?_) (fun h1 => ?_)
    · refine Ev.ite (fun h2 => Ev.some ?_) (fun h2 => ?_)
      · have : ¬ whenF (l.map tup) ((k : Int), (i : Int), false) < whenF (l.map tup) ((k : Int), (i : Int), true) := by omega
        rw [decide_eq_true h1, decide_eq_false this]
        rfl
      · refine Ev.neg (by omega) ?_
        have h3 : whenF (l.map tup) ((k : Int), (i : Int), false) < whenF (l.map tup) ((k : Int), (i : Int), true) := by omega
        have h4 : ¬ (k : Int) < (s : Int) - 1 := by omega
        rw [decide_eq_true h1, decide_eq_true h3, decide_eq_false h4]
        exact hv
    · have h4 : (k : Int) < (s : Int) - 1 := by omega
      refine Ev.pos h4 (Ev.bind w ?_)
      refine Ev.ite (fun h2 => Ev.some ?_) (fun h2 => ?_)
      · have : ¬ whenF (l.map tup) ((k : Int) + 1, (i : Int), true) < whenF (l.map tup) ((k : Int), (i : Int), true) := by omega
        rw [decide_eq_false h1, decide_eq_true h4, decide_eq_false this]
        rfl
      · have h3 : whenF (l.map tup) ((k : Int) + 1, (i : Int), true) < whenF (l.map tup) ((k : Int), (i : Int), true) := by omega
        rw [decide_eq_false h1, decide_eq_true h4, decide_eq_true h3]
        exact hv
theorem l2_ev (l : List S82) (hn : l.length ≤ 9223372036854775807) {s m k : Nat} (hs : s ≤ 32) (hk : k < s) (hm : m ≤ 32) {v : Bool} (hv : Ev (fun n => spec_SlotsOk.l1 n l (s : Int) (m : Int) ((k + 1 : Nat) : Int)) v) :
    ∀ d i : Nat, m - i = d → i ≤ m → Ev (fun n => spec_SlotsOk.l2 n l (s : Int) (m : Int) (k : Int) (i : Int)) (allUp (condB (l.map tup) s k) d i && v) := by
  intro d
  induction d with
  | zero =>
    intro i hd hi
    refine Ev.succ ?_
    simp only [spec_SlotsOk.l2]
    rw [show wrap64 ((k : Int) + 1) = ((k + 1 : Nat) : Int) by rw [wrap_id] <;> omega]
    exact Ev.neg (by omega) (by simpa [allUp] using hv)
  | succ d ih =>
    intro i hd hi
    refine Ev.succ ?_
    simp only [spec_SlotsOk.l2]
    have hlt : i < m := by omega
    have nx := ih (i + 1) (by omega) (by omega)
    have J := fun x => j5_ev l hn hs hk hlt hm nx x
    have w1 := when_ev l hn (k : Int) (i : Int) false
    have w2 := when_ev l hn (k : Int) (i : Int) true
    refine Ev.pos (by omega) (Ev.bind w1 (Ev.bind w2 ?_))
    simp only [allUp, condB]
    refine Ev.ite (fun h1 => ?_) (fun h1 => ?_)
    · have := J true
      rw [decide_eq_false (show ¬ 0 ≤ whenF (l.map tup) ((k : Int), (i : Int), false) by omega)]
      simpa using this
    · have g1 := decide_eq_true (show 0 ≤ whenF (l.map tup) ((k : Int), (i : Int), false) by omega)
      refine Ev.ite (fun h2 => ?_) (fun h2 => ?_)
      · have := J true
        rw [g1, decide_eq_false (show ¬ 0 ≤ whenF (l.map tup) ((k : Int), (i : Int), true) by omega)]
        simpa using this
      · have g2 := decide_eq_true (show 0 ≤ whenF (l.map tup) ((k : Int), (i : Int), true) by omega)
        refine Ev.ite (fun h3 => ?_) (fun h3 => ?_)
        · rw [show wrap64 ((k : Int) - 1) = (k : Int) - 1 by rw [wrap_id] <;> omega]
          refine Ev.bind (when_ev l hn ((k : Int) - 1) (i : Int) false) ?_
          have := J (decide (whenF (l.map tup) ((k : Int), (i : Int), false) ≤ whenF (l.map tup) ((k : Int) - 1, (i : Int), false)))
          rw [g1, g2, decide_eq_true (show 0 < k by omega)]
          have e : (!decide (whenF (l.map tup) ((k : Int), (i : Int), false) ≤ whenF (l.map tup) ((k : Int) - 1, (i : Int), false))) = decide (whenF (l.map tup) ((k : Int) - 1, (i : Int), false) < whenF (l.map tup) ((k : Int), (i : Int), false)) := by
            by_cases h : whenF (l.map tup) ((k : Int), (i : Int), false) ≤ whenF (l.map tup) ((k : Int) - 1, (i : Int), false)
            · rw [decide_eq_true h, decide_eq_false (by omega)]
              rfl
            · rw [decide_eq_false h, decide_eq_true (by omega)]
              rfl
          rw [e] at this
          simpa only [Bool.true_and, Bool.not_true, Bool.false_or, Bool.and_assoc] using this
        · have := J false
          rw [g1, g2, decide_eq_false (show ¬ 0 < k by omega)]
          simpa only [Bool.true_and, Bool.not_false, Bool.true_or, Bool.and_assoc] using this
theorem l1_ev (l : List S82) (hn : l.length ≤ 9223372036854775807) {s m : Nat} (hs : s ≤ 32) (hm : m ≤ 32) :
    ∀ d k : Nat, s - k = d → k ≤ s → Ev (fun n => spec_SlotsOk.l1 n l (s : Int) (m : Int) (k : Int)) (allUp (fun k => allUp (condB (l.map tup) s k) m 0) d k) := by
  intro d
  induction d with
  | zero =>
    intro k hd hk
    refine Ev.succ ?_
    simp only [spec_SlotsOk.l1]
    exact Ev.neg (by omega) (Ev.some rfl)
  | succ d ih =>
    intro k hd hk
    refine Ev.succ ?_
    simp only [spec_SlotsOk.l1]
    refine Ev.pos (by omega) ?_
    have := l2_ev l hn hs (show k < s by omega) hm (ih (k + 1) (by omega) (by omega)) m 0 (by omega) (by omega)
    simpa only [allUp, Int.natCast_zero] using this
theorem ref_iff (P : List Sl) (s m : Nat) : allUp (fun k => allUp (condB P s k) m 0) s 0 = true ↔ Ref s m P := by
  have key : allUp (fun k => allUp (condB P s k) m 0) s 0 = true ↔ ∀ k i : Nat, k < s → i < m → condB P s k i = true := by
    rw [allUp_iff]
    simp only [allUp_iff]
    exact ⟨fun h k i hk hi => h k (by omega) (by omega) i (by omega) (by omega), fun h k _ hk i _ hi => h k i (by omega) (by omega)⟩
  rw [key]
  have one : ∀ k i : Nat, condB P s k i = true ↔ (0 ≤ whenF P ((k : Int), (i : Int), false) ∧ 0 ≤ whenF P ((k : Int), (i : Int), true) ∧ (0 < (k : Int) → whenF P ((k : Int) - 1, (i : Int), false) < whenF P ((k : Int), (i : Int), false)) ∧ ((k : Int) = (s : Int) - 1 → whenF P ((k : Int), (i : Int), false) < whenF P ((k : Int), (i : Int), true)) ∧ ((k : Int) < (s : Int) - 1 → whenF P ((k : Int) + 1, (i : Int), true) < whenF P ((k : Int), (i : Int), true))) := by
    intro k i
    simp only [condB, Bool.and_eq_true, Bool.or_eq_true, Bool.not_eq_true', decide_eq_true_eq, decide_eq_false_iff_not]
    constructor
    · rintro ⟨⟨⟨⟨h1, h2⟩, h3⟩, h4⟩, h5⟩
      exact ⟨h1, h2, fun h => h3.resolve_left (fun h' => h' (by omega)), fun h => h4.resolve_left (fun h' => h' h), fun h => h5.resolve_left (fun h' => h' h)⟩
    · rintro ⟨h1, h2, h3, h4, h5⟩
      exact ⟨⟨⟨⟨h1, h2⟩, (Decidable.em (0 < k)).symm.imp id (fun h => h3 (by omega))⟩, (Decidable.em _).symm.imp id h4⟩, (Decidable.em _).symm.imp id h5⟩
  constructor
  · intro h k i h1 h2 h3 h4
    have := (one k.toNat i.toNat).1 (h k.toNat i.toNat (by omega) (by omega))
    rw [Int.toNat_of_nonneg h1, Int.toNat_of_nonneg h3] at this
    exact this
  · intro h k i hk hi
    exact (one k i).2 (h k i (by omega) (by omega) (by omega) (by omega))
/-- What both ask of a slot and of the one ahead of it. -/
def goodB (l : List S82) (s m : Nat) (i : Nat) : Bool :=
  (decide (0 ≤ (l.getD i z82).f0) && decide ((l.getD i z82).f0 ≤ 10000)) && ((decide (0 ≤ (l.getD i z82).f1) && decide ((l.getD i z82).f1 ≤ (s : Int) - 1)) && ((decide (0 ≤ (l.getD i z82).f2) && decide ((l.getD i z82).f2 ≤ (m : Int) - 1))
    && (!decide (0 < i) || !(decide ((l.getD (i - 1) z82).f0 > (l.getD i z82).f0) || (decide ((l.getD (i - 1) z82).f0 = (l.getD i z82).f0) && decide ((l.getD (i - 1) z82).f1 ≥ (l.getD i z82).f1))))))
theorem getDS {l : List S82} {i : Nat} (h : i < l.length) : l.getD i z82 = l[i] := by
  rw [List.getD_eq_getElem?_getD, List.getElem?_eq_getElem h, Option.getD_some]
theorem j2_ev (l : List S82) (hn : l.length ≤ 9223372036854775807) {s m i : Nat} (hi : i < l.length) {v : Bool} (hv : Ev (fun n => spec_SlotsOk.l0 n l (s : Int) (m : Int) ((i + 1 : Nat) : Int)) v) (x : Bool) :
    Ev (fun n => spec_SlotsOk.j2 n l (s : Int) (m : Int) (i : Int) x (l.getD i z82).f0 (l.getD i z82).f1 (l.getD i z82).f2 (l.getD i z82).f3)
      (!x && ((!decide (0 < i) || !(decide ((l.getD (i - 1) z82).f0 > (l.getD i z82).f0) || (decide ((l.getD (i - 1) z82).f0 = (l.getD i z82).f0) && decide ((l.getD (i - 1) z82).f1 ≥ (l.getD i z82).f1)))) && v)) := by
  refine Ev.succ ?_
  simp only [spec_SlotsOk.j2]
  cases x with
  | true => exact Ev.pos rfl (Ev.some (by simp))
  | false =>
    refine Ev.neg (by simp) ?_
    rw [up i hi hn]
    refine Ev.ite (fun h1 => ?_) (fun h1 => ?_)
    · have e1 : wrap64 ((i : Int) - 1) = ((i - 1 : Nat) : Int) := by rw [wrap_id] <;> omega
      rw [e1, atS (show i - 1 < l.length by omega), ← getDS (show i - 1 < l.length by omega), decide_eq_true (show 0 < i by omega)]
      refine Ev.pos (by omega) (Ev.pos (by omega) ?_)
      refine Ev.ite (fun h2 => Ev.some ?_) (fun h2 => Ev.ite (fun h3 => Ev.ite (fun h4 => Ev.some ?_) (fun h4 => ?_)) (fun h3 => ?_))
      · rw [decide_eq_true h2]
        rfl
      · rw [decide_eq_true h3, decide_eq_true h4]
        simp
      · rw [decide_eq_false h2, decide_eq_false h4]
        simpa using hv
      · rw [decide_eq_false h2, decide_eq_false h3]
        simpa using hv
    · rw [decide_eq_false (show ¬ 0 < i by omega)]
      simpa using hv
theorem l0_ev (l : List S82) (hn : l.length ≤ 9223372036854775807) {s m : Nat} (hs : s ≤ 32) (hm : m ≤ 32) :
    ∀ d i : Nat, l.length - i = d → i ≤ l.length → Ev (fun n => spec_SlotsOk.l0 n l (s : Int) (m : Int) (i : Int)) (allUp (goodB l s m) d i && allUp (fun k => allUp (condB (l.map tup) s k) m 0) s 0) := by
  intro d
  induction d with
  | zero =>
    intro i hd hi
    refine Ev.succ ?_
    simp only [spec_SlotsOk.l0]
    refine Ev.neg (by omega) ?_
    have := l1_ev l hn hs hm s 0 (by omega) (by omega)
    simpa [allUp] using this
  | succ d ih =>
    intro i hd hi
    refine Ev.succ ?_
    simp only [spec_SlotsOk.l0]
    have hlt : i < l.length := by omega
    have J := fun x => j2_ev l hn hlt (ih (i + 1) (by omega) (by omega)) x
    refine Ev.pos (by omega) (Ev.pos (by omega) ?_)
    rw [atS hlt, ← getDS hlt, show wrap64 ((s : Int) - 1) = (s : Int) - 1 by rw [wrap_id] <;> omega, show wrap64 ((m : Int) - 1) = (m : Int) - 1 by rw [wrap_id] <;> omega]
    simp only [l5In_f, Option.bind_some, allUp, goodB]
    refine Ev.ite (fun h1 => ?_) (fun h1 => ?_)
    · rw [h1]
      refine Ev.ite (fun h2 => ?_) (fun h2 => ?_)
      · rw [h2]
        have := J (!(decide (0 ≤ (l.getD i z82).f2) && decide ((l.getD i z82).f2 ≤ (m : Int) - 1)))
        simpa only [Bool.true_and, Bool.not_not, Bool.and_assoc] using this
      · have := J true
        rw [Bool.eq_false_iff.2 h2]
        simpa using this
    · have := J true
      rw [Bool.eq_false_iff.2 h1]
      simpa using this
/-! ### the program's question -/
theorem cmp_f (a b : Int) : cmp_Compare_int.f a b = some (if a < b then -1 else if a > b then 1 else 0) := by
  unfold cmp_Compare_int.f cmp_isNaN_int.f
  simp only [bne_self_eq_false, Option.bind_some, Bool.false_eq_true, if_false]
  split
  · rfl
  · split <;> rfl
theorem or_ev (a b : Int) : Ev (fun k => cmp_Or_int.f k [a, b]) (if a ≠ 0 then a else b) := by
  unfold cmp_Or_int.f
  refine Ev.succ (Ev.succ (Ev.succ ?_))
  simp only [cmp_Or_int.l0]
  refine Ev.same (f := fun _ => some (if a ≠ 0 then a else b)) (fun k => ?_) (Ev.some rfl)
  by_cases h1 : a = 0 <;> by_cases h2 : b = 0 <;> simp [rd, h1, h2, wrap64]
theorem bySlot_ev (a0 a1 a2 : Int) (a3 : Bool) (b0 b1 b2 : Int) (b3 : Bool) : ∃ c, Ev (fun k => impl_bySlot.f k a0 a1 a2 a3 b0 b1 b2 b3) c ∧ decide (c ≥ 0) = (decide (a0 > b0) || (decide (a0 = b0) && decide (a1 ≥ b1))) := by
  refine ⟨(if (if a0 < b0 then (-1 : Int) else if a0 > b0 then 1 else 0) ≠ 0 then (if a0 < b0 then (-1 : Int) else if a0 > b0 then 1 else 0) else (if a1 < b1 then (-1 : Int) else if a1 > b1 then 1 else 0)), ?_, ?_⟩
  · unfold impl_bySlot.f
    simp only [cmp_f, Option.bind_some]
    exact Ev.bind (or_ev _ _) (Ev.some rfl)
  · by_cases h1 : a0 < b0
    · rw [if_pos h1, if_pos (by decide)]
      simp; omega
    · rw [if_neg h1]
      by_cases h2 : a0 > b0
      · rw [if_pos h2, if_pos (by decide)]
        simp; omega
      · rw [if_neg h2, if_neg (by simp)]
        by_cases h3 : a1 < b1
        · rw [if_pos h3]
          simp; omega
        · rw [if_neg h3]
          split <;> simp <;> omega
theorem rej_ev (l : List S82) {s m i : Nat} (hs : s ≤ 32) (hm : m ≤ 32) (hlt : i < l.length) (hn : l.length ≤ 9223372036854775807) : Ev (fun k => rejS k l (s : Int) (m : Int) (i : Int)) (!goodB l s m i) := by
  unfold rejS
  rw [atS hlt, ← getDS hlt, show wrap64 ((s : Int) - 1) = (s : Int) - 1 by rw [wrap_id] <;> omega, show wrap64 ((m : Int) - 1) = (m : Int) - 1 by rw [wrap_id] <;> omega]
  simp only [within_f, Option.bind_some, goodB]
  refine Ev.ite (fun h1 => ?_) (fun h1 => Ev.some (by rw [Bool.eq_false_iff.2 h1]; rfl))
  rw [h1]
  refine Ev.ite (fun h2 => ?_) (fun h2 => Ev.some (by rw [Bool.eq_false_iff.2 h2]; rfl))
  rw [h2]
  refine Ev.ite (fun h3 => ?_) (fun h3 => Ev.some (by rw [Bool.eq_false_iff.2 h3]; rfl))
  rw [h3]
  refine Ev.ite (fun h4 => ?_) (fun h4 => Ev.some (by rw [decide_eq_false (show ¬ 0 < i by omega)]; rfl))
  have e1 : wrap64 ((i : Int) - 1) = ((i - 1 : Nat) : Int) := by rw [wrap_id] <;> omega
  rw [e1, atS (show i - 1 < l.length by omega), ← getDS (show i - 1 < l.length by omega)]
  obtain ⟨c, hc, hd⟩ := bySlot_ev (l.getD (i - 1) z82).f0 (l.getD (i - 1) z82).f1 (l.getD (i - 1) z82).f2 (l.getD (i - 1) z82).f3 (l.getD i z82).f0 (l.getD i z82).f1 (l.getD i z82).f2 (l.getD i z82).f3
  refine Ev.bind hc (Ev.some ?_)
  rw [hd, decide_eq_true (show 0 < i by omega)]
  simp
def kvS (x : S82) : SKy × Int := (⟨x.f1, x.f2, x.f3⟩, x.f0)
def impV (l : List S82) (s m : Nat) : Nat → Nat → List (SKy × Int) → Bool
  | 0, _, T => T.all fun p => !badS T (s : Int) p
  | d + 1, i, T => goodB l s m i && (!(lkS T (kvS (l.getD i z82)).1).isSome && impV l s m d (i + 1) (kvS (l.getD i z82) :: T))
theorem sok_ev (l : List S82) {s m : Nat} (hs : s ≤ 32) (hm : m ≤ 32) (hn : l.length ≤ 9223372036854775807) : ∀ (d i : Nat) (T : List (SKy × Int)), l.length - i = d → i ≤ l.length → Ev (fun k => sokL k l (s : Int) (m : Int) T (i : Int)) (impV l s m d i T) := by
  intro d
  induction d with
  | zero =>
    intro i T hd hi
    refine Ev.succ ?_
    simp only [sokL]
    exact Ev.neg (by omega) (Ev.some rfl)
  | succ d ih =>
    intro i T hd hi
    refine Ev.succ ?_
    simp only [sokL]
    have hlt : i < l.length := by omega
    refine Ev.pos (by omega) (Ev.pos (by omega) (Ev.bind (rej_ev l hs hm hlt hn) ?_))
    rw [atS hlt, ← getDS hlt, up i hlt hn]
    simp only [impV]
    cases goodB l s m i with
    | false => exact Ev.pos rfl (Ev.some rfl)
    | true =>
      refine Ev.neg (by simp) (Ev.ite (fun h => Ev.some ?_) (fun h => ?_))
      · rw [show (lkS T (kvS (l.getD i z82)).1).isSome = true from h]
        rfl
      · rw [show (lkS T (kvS (l.getD i z82)).1).isSome = false from Bool.eq_false_iff.2 h]
        exact ih (i + 1) _ (by omega) (by omega)
theorem lkS_none {T : List (SKy × Int)} {y : SKy} : (lkS T y).isSome = false ↔ y ∉ T.map (·.1) := by
  induction T with
  | nil => simp [lkS]
  | cons p T ih =>
    simp only [lkS, List.map_cons, List.mem_cons, not_or]
    by_cases h : y = p.1
    · simp [h]
    · simp only [if_neg h, ih]
      exact ⟨fun h' => ⟨h, h'⟩, fun h' => h'.2⟩
theorem lkS_kv {T : List (SKy × Int)} (hn : (T.map (·.1)).Nodup) {p : SKy × Int} (hp : p ∈ T) : lkS T p.1 = some p.2 := by
  induction T with
  | nil => simp at hp
  | cons q T ih =>
    simp only [List.map_cons, List.nodup_cons] at hn
    simp only [lkS]
    rcases List.mem_cons.1 hp with rfl | hp
    · rw [if_pos rfl]
    · rw [if_neg (fun e => hn.1 (by rw [← e]; exact List.mem_map.2 ⟨p, hp, rfl⟩))]
      exact ih hn.2 hp
theorem nodup_rev {α : Type} {l : List α} : l.reverse.Nodup ↔ l.Nodup := by
  unfold List.Nodup
  rw [List.pairwise_reverse]
  exact ⟨fun h => h.imp Ne.symm, fun h => h.imp Ne.symm⟩
theorem impV_iff (l : List S82) (s m : Nat) : ∀ (d i : Nat) (T : List (SKy × Int)), l.length - i = d → i ≤ l.length → T = ((l.take i).map kvS).reverse → (T.map (·.1)).Nodup →
    (impV l s m d i T = true ↔ (∀ j, i ≤ j → j < l.length → goodB l s m j = true) ∧ (l.map fun x => (kvS x).1).Nodup ∧ ∀ p ∈ (l.map kvS).reverse, badS (l.map kvS).reverse (s : Int) p = false) := by
  intro d
  induction d with
  | zero =>
    intro i T hd hi hT hN
    have e : i = l.length := by omega
    subst e
    rw [List.take_length] at hT
    subst hT
    simp only [impV, List.all_eq_true, Bool.not_eq_true']
    constructor
    · intro h
      refine ⟨fun j h1 h2 => by omega, ?_, h⟩
      rw [List.map_reverse, List.map_map] at hN
      exact nodup_rev.1 hN
    · exact fun h => h.2.2
  | succ d ih =>
    intro i T hd hi hT hN
    have hlt : i < l.length := by omega
    simp only [impV, Bool.and_eq_true, Bool.not_eq_true']
    have hT' : kvS (l.getD i z82) :: T = ((l.take (i + 1)).map kvS).reverse := by
      rw [getDS hlt, List.take_succ_eq_append_getElem hlt, List.map_append, List.reverse_append, ← hT]
      rfl
    constructor
    · rintro ⟨h1, h2, h3⟩
      have hN' : ((kvS (l.getD i z82) :: T).map (·.1)).Nodup := by
        rw [List.map_cons]
        exact List.nodup_cons.2 ⟨lkS_none.1 h2, hN⟩
      obtain ⟨g1, g2⟩ := (ih (i + 1) _ (by omega) (by omega) hT' hN').1 h3
      refine ⟨fun j hj hj2 => ?_, g2⟩
      by_cases e : j = i
      · subst e; exact h1
      · exact g1 j (by omega) hj2
    · rintro ⟨h1, h2, h3⟩
      have hN' : ((kvS (l.getD i z82) :: T).map (·.1)).Nodup := by
        rw [hT', List.map_reverse, List.map_map]
        refine nodup_rev.2 (h2.sublist ?_)
        exact (List.take_sublist (i + 1) l).map _
      refine ⟨h1 i (Nat.le_refl _) hlt, ?_, (ih (i + 1) _ (by omega) (by omega) hT' hN').2 ⟨fun j hj hj2 => h1 j (by omega) hj2, h2, h3⟩⟩
      rw [List.map_cons, List.nodup_cons] at hN'
      exact lkS_none.2 hN'.1
theorem all_good {l : List S82} {s m : Nat} (h : ∀ j, 0 ≤ j → j < l.length → goodB l s m j = true) : ∀ x ∈ l.map tup, 0 ≤ x.1 ∧ (0 ≤ x.2.1 ∧ x.2.1 < (s : Int)) ∧ (0 ≤ x.2.2.1 ∧ x.2.2.1 < (m : Int)) := by
  intro x hx
  obtain ⟨y, hy, rfl⟩ := List.mem_map.1 hx
  obtain ⟨j, hj, rfl⟩ := List.mem_iff_getElem.1 hy
  have := h j (by omega) hj
  simp only [goodB, Bool.and_eq_true, decide_eq_true_eq, getDS hj] at this
  simp only [tup]
  omega
theorem prog_iff {l : List S82} {s m : Nat} (hs : s ≤ 32) (hw : ∀ x ∈ l.map tup, 0 ≤ x.1 ∧ (0 ≤ x.2.1 ∧ x.2.1 < (s : Int)) ∧ (0 ≤ x.2.2.1 ∧ x.2.2.1 < (m : Int))) :
    ((l.map fun x => (kvS x).1).Nodup ∧ ∀ p ∈ (l.map kvS).reverse, badS (l.map kvS).reverse (s : Int) p = false) ↔ Prog s m (l.map tup) := by
  have hN : (l.map fun x => (kvS x).1).Nodup ↔ ((l.map tup).map (·.2)).Nodup := by
    rw [List.map_map]
    have e : (l.map fun x => (kvS x).1) = (l.map ((fun x : Sl => x.2) ∘ tup)).map (fun y => (⟨y.1, y.2.1, y.2.2⟩ : SKy)) := by
      rw [List.map_map]; rfl
    rw [e]
    unfold List.Nodup
    rw [List.pairwise_map]
    refine ⟨fun h => h.imp (fun hne e => hne (by rw [e])), fun h => h.imp (fun {a b} hne e => hne ?_)⟩
    obtain ⟨a1, a2, a3⟩ := a
    obtain ⟨b1, b2, b3⟩ := b
    simp only [SKy.mk.injEq] at e
    rw [e.1, e.2.1, e.2.2]
  unfold Prog
  rw [hN]
  refine and_congr_right fun hn => ?_
  have hN2 : (((l.map kvS).reverse).map (·.1)).Nodup := by
    rw [List.map_reverse, List.map_map]
    exact nodup_rev.2 (hN.2 hn)
  have look : ∀ a b c, (lkS (l.map kvS).reverse ⟨a, b, c⟩).getD 0 = if (a, b, c) ∈ (l.map tup).map (·.2) then whenF (l.map tup) (a, b, c) else 0 := by
    intro a b c
    split
    · next hm =>
      obtain ⟨t, h1, h2⟩ := when_mem hm
      rw [h2]
      obtain ⟨y, hy, hy2⟩ := List.mem_map.1 h1
      have h3 : ((⟨a, b, c⟩ : SKy), t) ∈ (l.map kvS).reverse := List.mem_reverse.2 (List.mem_map.2 ⟨y, hy, by
        simp only [tup, Prod.mk.injEq] at hy2
        obtain ⟨e0, e1, e2, e3⟩ := hy2
        simp only [kvS, e0, e1, e2, e3]⟩)
      rw [lkS_kv hN2 h3]
      rfl
    · next hm =>
      have : (lkS (l.map kvS).reverse ⟨a, b, c⟩).isSome = false := lkS_none.2 fun h => hm (by
        rw [List.map_reverse, List.map_map, List.mem_reverse] at h
        obtain ⟨y, hy, hy2⟩ := List.mem_map.1 h
        refine List.mem_map.2 ⟨tup y, List.mem_map.2 ⟨y, hy, rfl⟩, ?_⟩
        simp only [Function.comp, kvS, SKy.mk.injEq] at hy2
        simp only [tup, hy2.1, hy2.2.1, hy2.2.2])
      cases hh : lkS (l.map kvS).reverse ⟨a, b, c⟩ with
      | none => rfl
      | some v => rw [hh] at this; cases this
  have one : ∀ y ∈ l, badS (l.map kvS).reverse (s : Int) (kvS y) = false ↔ ∀ a, aheadOf (s : Int) (tup y).2 = some a → (if a ∈ (l.map tup).map (·.2) then whenF (l.map tup) a else 0) < (tup y).1 := by
    intro y hy
    have hb := hw (tup y) (List.mem_map.2 ⟨y, hy, rfl⟩)
    obtain ⟨t, k, i, c⟩ := y
    simp only [tup] at hb
    have e1 : wrap64 ((s : Int) - 1) = (s : Int) - 1 := by rw [wrap_id] <;> omega
    have e2 : wrap64 (k + 1) = k + 1 := by rw [wrap_id] <;> omega
    have e3 : wrap64 (k - 1) = k - 1 := by rw [wrap_id] <;> omega
    clear hy
    show badS (l.map kvS).reverse (s : Int) (⟨k, i, c⟩, t) = false ↔ ∀ a, aheadOf (s : Int) (k, i, c) = some a → (if a ∈ (l.map tup).map (·.2) then whenF (l.map tup) a else 0) < t
    cases c with
    | false =>
      simp only [badS, aheadT, e1, e2, e3, aheadOf, Bool.false_eq_true, if_false, if_true]
      by_cases h0 : 0 < k
      · simp only [gt_iff_lt, h0, decide_true, if_true, Bool.true_and, look, decide_eq_false_iff_not, Option.some.injEq]
        exact ⟨fun h a e => by subst e; omega, fun h => by have := h _ rfl; omega⟩
      · simp [h0]
    | true =>
      simp only [badS, aheadT, e1, e2, e3, aheadOf, if_true, Bool.true_eq_false, if_false]
      by_cases h0 : k = (s : Int) - 1
      · simp only [if_pos h0, Bool.true_and, look, decide_eq_false_iff_not]
        exact ⟨fun h a e => by obtain rfl := Option.some.inj e; omega, fun h => by have := h _ rfl; omega⟩
      · simp only [if_neg h0, Bool.true_and, look, decide_eq_false_iff_not]
        exact ⟨fun h a e => by obtain rfl := Option.some.inj e; omega, fun h => by have := h _ rfl; omega⟩
  constructor
  · intro h x hx
    obtain ⟨y, hy, rfl⟩ := List.mem_map.1 hx
    exact (one y hy).1 (h _ (List.mem_reverse.2 (List.mem_map.2 ⟨y, hy, rfl⟩)))
  · intro h p hp
    obtain ⟨y, hy, rfl⟩ := List.mem_map.1 (List.mem_reverse.1 hp)
    exact (one y hy).2 (h _ (List.mem_map.2 ⟨y, hy, rfl⟩))
theorem size_f (a : Int) : spec_l19Size.f a = some (decide (1 ≤ a) && decide (a ≤ 32)) := by
  unfold spec_l19Size.f
  simp only [l5In_f, Option.bind_some]
theorem stages_f (a b : Int) : impl_stagesOk.f a b = some ((decide (1 ≤ a) && decide (a ≤ 32)) && (decide (1 ≤ b) && decide (b ≤ 32))) := by
  unfold impl_stagesOk.f
  simp only [within_f, Option.bind_some]
  split
  · next h => rw [h, Bool.true_and]
  · next h => rw [Bool.eq_false_iff.2 h, Bool.false_and]
theorem slots_both (l : List S82) (hn : l.length ≤ 1048576) (a b : Int) : ∃ v, Ev (fun k => spec_SlotsOk.f k l a b) v ∧ Ev (fun k => impl_SlotsOk.f k l a b) v ∧
    (v = true → ∃ s m : Nat, a = s ∧ b = m ∧ 1 ≤ s ∧ s ≤ 32 ∧ 1 ≤ m ∧ m ≤ 32 ∧ l.length = 2 * s * m ∧ (∀ j, 0 ≤ j → j < l.length → goodB l s m j = true) ∧ Ref s m (l.map tup)) := by
  unfold spec_SlotsOk.f impl_SlotsOk.f
  simp only [size_f, stages_f, Option.bind_some]
  have jf : Ev (fun k => spec_SlotsOk.j0 k l a b true) false := by
    refine Ev.succ ?_
    simp only [spec_SlotsOk.j0]
    exact Ev.pos trivial (Ev.some rfl)
  by_cases h1 : (decide (1 ≤ a) && decide (a ≤ 32)) = true
  · by_cases h2 : (decide (1 ≤ b) && decide (b ≤ 32)) = true
    · rw [h1, h2]
      simp only [Bool.and_eq_true, decide_eq_true_eq] at h1 h2
      obtain ⟨s, rfl⟩ : ∃ s : Nat, a = s := ⟨a.toNat, by omega⟩
      obtain ⟨m, rfl⟩ : ∃ m : Nat, b = m := ⟨b.toNat, by omega⟩
      have hsm : (s : Int) * (m : Int) ≤ 32 * 32 := Int.mul_le_mul (by omega) (by omega) (by omega) (by decide)
      have hsm0 : 0 ≤ (s : Int) * (m : Int) := Int.mul_nonneg (by omega) (by omega)
      have e1 : wrap64 (wrap64 (2 * (s : Int)) * (m : Int)) = 2 * (s : Int) * (m : Int) := by
        rw [wrap_id (n := 2 * (s : Int)) (by omega) (by omega), Int.mul_assoc, wrap_id] <;> omega
      rw [e1]
      by_cases h3 : (l.length : Int) = 2 * (s : Int) * (m : Int)
      · have h3' : l.length = 2 * s * m := by
          have : ((2 * s * m : Nat) : Int) = 2 * (s : Int) * (m : Int) := by simp
          omega
        have p1 := l0_ev l (by omega) (s := s) (m := m) (by omega) (by omega) l.length 0 (by omega) (by omega)
        have p2 := sok_ev l (s := s) (m := m) (by omega) (by omega) (by omega) l.length 0 [] (by omega) (by omega)
        have eqv : impV l s m l.length 0 [] = (allUp (goodB l s m) l.length 0 && allUp (fun k => allUp (condB (l.map tup) s k) m 0) s 0) := by
          rw [Bool.eq_iff_iff, impV_iff l s m l.length 0 [] (by omega) (by omega) (by simp) (by simp), Bool.and_eq_true, allUp_iff, ref_iff]
          constructor
          · rintro ⟨g1, g2⟩
            have hw := all_good g1
            exact ⟨fun j hj hj2 => g1 j hj (by omega), (prog_ref (by rw [List.length_map]; exact h3') hw).1 ((prog_iff (by omega) hw).1 g2)⟩
          · rintro ⟨g1, g2⟩
            have g1' : ∀ j, 0 ≤ j → j < l.length → goodB l s m j = true := fun j hj hj2 => g1 j hj (by omega)
            have hw := all_good g1'
            exact ⟨g1', (prog_iff (by omega) hw).2 ((prog_ref (by rw [List.length_map]; exact h3') hw).2 g2)⟩
        refine ⟨_, Ev.pos rfl (Ev.pos rfl (Ev.succ ?_)), Ev.pos rfl (Ev.pos h3 (Ev.pos (by omega) (eqv ▸ p2))), fun hv => ?_⟩
        · simp only [spec_SlotsOk.j0]
          refine Ev.neg (by simp [h3]) p1
        · simp only [Bool.and_eq_true] at hv
          rw [allUp_iff] at hv
          exact ⟨s, m, rfl, rfl, by omega, by omega, by omega, by omega, h3', fun j hj hj2 => hv.1 j hj (by omega), (ref_iff _ _ _).1 hv.2⟩
      · refine ⟨false, Ev.pos rfl (Ev.pos rfl ?_), Ev.pos rfl (Ev.neg h3 (Ev.some rfl)), by simp⟩
        rw [show ((l.length : Int) != 2 * (s : Int) * (m : Int)) = true from bne_iff_ne.2 h3]
        exact jf
    · rw [h1, Bool.eq_false_iff.2 h2]
      exact ⟨false, Ev.pos rfl (Ev.neg (by simp) jf), Ev.neg (by simp) (Ev.some rfl), by simp⟩
  · rw [Bool.eq_false_iff.2 h1]
    exact ⟨false, Ev.neg (by simp) jf, Ev.neg (by simp) (Ev.some rfl), by simp⟩
/-! ### what slots cost: the reference -/
def cntP (P : List Sl) (k t : Int) (i : Nat) : Bool := decide (whenF P (k, (i : Int), false) ≤ t ∧ t ≤ whenF P (k, (i : Int), true))
def mostR (P : List Sl) (m : Nat) (k : Int) (Q : List Sl) : Int := Q.foldl (fun mo x => if (cnt P m k x.1 : Int) > mo then (cnt P m k x.1 : Int) else mo) 0
def whenL (P : List Sl) (k : Int) (b : Bool) (n : Nat) : List Int := (List.range n).map fun i : Nat => whenF P (k, (i : Int), b)
theorem whenL_len (P : List Sl) (k : Int) (b : Bool) (n : Nat) : (whenL P k b n).length = n := by simp [whenL]
theorem whenL_at (P : List Sl) (k : Int) (b : Bool) {n i : Nat} (h : i < n) : rd (whenL P k b n) (i : Int) = whenF P (k, (i : Int), b) := by
  rw [rd_at (by rw [whenL_len]; exact h)]
  simp [whenL]
theorem cnt_eq (P : List Sl) (m : Nat) (k t : Int) : cnt P m k t = (List.range m).countP (cntP P k t) := rfl
theorem c3_ev (l : List S82) (hn : l.length ≤ 1048576) {s m : Nat} (hm : m ≤ 32) (k : Nat) (acc : List Int) (last mo : Int) (j : Nat) (t : Int) (V : Int × List Int)
    (hv : Ev (fun n => spec_SlotCost.l2 n l (s : Int) (m : Int) acc last (k : Int) (if (cnt (l.map tup) m (k : Int) t : Int) > mo then (cnt (l.map tup) m (k : Int) t : Int) else mo) (whenL (l.map tup) (k : Int) false m) (whenL (l.map tup) (k : Int) true m) (wrap64 ((j : Int) + 1))) V) :
    ∀ d i : Nat, m - i = d → i ≤ m → Ev (fun n => spec_SlotCost.l3 n l (s : Int) (m : Int) acc last (k : Int) mo (whenL (l.map tup) (k : Int) false m) (whenL (l.map tup) (k : Int) true m) (j : Int) t ((List.range i).countP (cntP (l.map tup) (k : Int) t) : Int) (i : Int)) V := by
  intro d
  induction d with
  | zero =>
    intro i hd hi
    obtain rfl : i = m := by omega
    refine Ev.succ ?_
    simp only [spec_SlotCost.l3]
    refine Ev.neg (by omega) ?_
    rw [← cnt_eq]
    refine Ev.ite (fun h => ?_) (fun h => ?_)
    · rw [if_pos h] at hv
      exact hv
    · rw [if_neg h] at hv
      exact hv
  | succ d ih =>
    intro i hd hi
    refine Ev.succ ?_
    simp only [spec_SlotCost.l3]
    have hlt : i < m := by omega
    have hc : (List.range i).countP (cntP (l.map tup) (k : Int) t) ≤ i := by
      have := List.countP_le_length (p := cntP (l.map tup) (k : Int) t) (l := List.range i)
      simpa using this
    have nx := ih (i + 1) (by omega) (by omega)
    rw [List.range_succ, List.countP_append, List.countP_singleton] at nx
    have e1 : wrap64 ((i : Int) + 1) = ((i + 1 : Nat) : Int) := by rw [wrap_id] <;> omega
    rw [e1, whenL_at _ _ _ hlt, whenL_at _ _ _ hlt]
    refine Ev.pos (by omega) (Ev.pos (by omega) (Ev.pos (by rw [whenL_len]; omega) (Ev.ite (fun h1 => Ev.pos (by rw [whenL_len]; omega) (Ev.ite (fun h2 => ?_) (fun h2 => ?_))) (fun h1 => ?_))))
    · rw [if_pos (show cntP (l.map tup) (k : Int) t i = true by simp [cntP]; omega)] at nx
      rw [wrap_id (by omega) (by omega)]
      simpa using nx
    · rw [if_neg (show ¬ cntP (l.map tup) (k : Int) t i = true by simp [cntP]; omega)] at nx
      simpa using nx
    · rw [if_neg (show ¬ cntP (l.map tup) (k : Int) t i = true by simp [cntP]; omega)] at nx
      simpa using nx
theorem c2_ev (l : List S82) (hn : l.length ≤ 1048576) {s m : Nat} (hs : s ≤ 32) (hm : m ≤ 32) (k : Nat) (acc : List Int) (ha : acc.length ≤ 32) (last : Int) (V : Int × List Int)
    (hv : Ev (fun n => spec_SlotCost.l0 n l (s : Int) (m : Int) (acc ++ [mostR (l.map tup) m (k : Int) (l.map tup)]) last (wrap64 ((k : Int) + 1))) V) :
    ∀ d j : Nat, l.length - j = d → j ≤ l.length → Ev (fun n => spec_SlotCost.l2 n l (s : Int) (m : Int) acc last (k : Int) (mostR (l.map tup) m (k : Int) ((l.map tup).take j)) (whenL (l.map tup) (k : Int) false m) (whenL (l.map tup) (k : Int) true m) (j : Int)) V := by
  intro d
  induction d with
  | zero =>
    intro j hd hj
    refine Ev.succ ?_
    simp only [spec_SlotCost.l2]
    refine Ev.neg (by omega) (Ev.pos (by omega) ?_)
    rw [List.take_of_length_le (by rw [List.length_map]; omega)]
    exact hv
  | succ d ih =>
    intro j hd hj
    refine Ev.succ ?_
    simp only [spec_SlotCost.l2]
    have hlt : j < l.length := by omega
    refine Ev.pos (by omega) (Ev.pos (by omega) ?_)
    have nx := ih (j + 1) (by omega) (by omega)
    have hlt' : j < (l.map tup).length := by rw [List.length_map]; exact hlt
    have e : mostR (l.map tup) m (k : Int) ((l.map tup).take (j + 1)) = if (cnt (l.map tup) m (k : Int) l[j].f0 : Int) > mostR (l.map tup) m (k : Int) ((l.map tup).take j) then (cnt (l.map tup) m (k : Int) l[j].f0 : Int) else mostR (l.map tup) m (k : Int) ((l.map tup).take j) := by
      unfold mostR
      rw [List.take_succ_eq_append_getElem hlt', List.foldl_append, List.foldl_cons, List.foldl_nil, List.getElem_map]
      rfl
    rw [e] at nx
    rw [atS hlt]
    have := c3_ev l hn hm k acc last (mostR (l.map tup) m (k : Int) ((l.map tup).take j)) j l[j].f0 V (s := s) (by rw [up j hlt (by omega)]; exact nx) m 0 (by omega) (by omega)
    simpa using this
theorem c1_ev (l : List S82) (hn : l.length ≤ 1048576) {s m : Nat} (hs : s ≤ 32) (hm : m ≤ 32) (k : Nat) (acc : List Int) (ha : acc.length ≤ 32) (last : Int) (V : Int × List Int)
    (hv : Ev (fun n => spec_SlotCost.l0 n l (s : Int) (m : Int) (acc ++ [mostR (l.map tup) m (k : Int) (l.map tup)]) last (wrap64 ((k : Int) + 1))) V) :
    ∀ d i : Nat, m - i = d → i ≤ m → Ev (fun n => spec_SlotCost.l1 n l (s : Int) (m : Int) acc last (k : Int) 0 (whenL (l.map tup) (k : Int) false i) (whenL (l.map tup) (k : Int) true i) (i : Int)) V := by
  intro d
  induction d with
  | zero =>
    intro i hd hi
    obtain rfl : i = m := by omega
    refine Ev.succ ?_
    simp only [spec_SlotCost.l1]
    refine Ev.neg (by omega) ?_
    have := c2_ev l hn hs hm k acc ha last V hv l.length 0 (by omega) (by omega)
    simpa [mostR] using this
  | succ d ih =>
    intro i hd hi
    refine Ev.succ ?_
    simp only [spec_SlotCost.l1]
    have w1 := when_ev l (by omega) (k : Int) (i : Int) false
    have w2 := when_ev l (by omega) (k : Int) (i : Int) true
    refine Ev.pos (by omega) (Ev.bind w1 (Ev.pos (by rw [whenL_len]; omega) (Ev.bind w2 (Ev.pos (by rw [whenL_len]; omega) ?_))))
    have nx := ih (i + 1) (by omega) (by omega)
    rw [show wrap64 ((i : Int) + 1) = ((i + 1 : Nat) : Int) by rw [wrap_id] <;> omega]
    have e : ∀ b, whenL (l.map tup) (k : Int) b (i + 1) = whenL (l.map tup) (k : Int) b i ++ [whenF (l.map tup) ((k : Int), (i : Int), b)] := fun b => by
      unfold whenL
      rw [List.range_succ, List.map_append]
      rfl
    rw [e, e] at nx
    exact nx
theorem c0_ev (l : List S82) (hn : l.length ≤ 1048576) {s m : Nat} (hs : s ≤ 32) (hm : m ≤ 32) (last : Int) :
    ∀ d k : Nat, s - k = d → k ≤ s → Ev (fun n => spec_SlotCost.l0 n l (s : Int) (m : Int) ((List.range k).map fun k : Nat => mostR (l.map tup) m (k : Int) (l.map tup)) last (k : Int)) (wrap64 (last + 1), (List.range s).map fun k : Nat => mostR (l.map tup) m (k : Int) (l.map tup)) := by
  intro d
  induction d with
  | zero =>
    intro k hd hk
    obtain rfl : k = s := by omega
    refine Ev.succ ?_
    simp only [spec_SlotCost.l0]
    exact Ev.neg (by omega) (Ev.some rfl)
  | succ d ih =>
    intro k hd hk
    refine Ev.succ ?_
    simp only [spec_SlotCost.l0]
    refine Ev.pos (by omega) ?_
    have nx := ih (k + 1) (by omega) (by omega)
    rw [List.range_succ, List.map_append] at nx
    have := c1_ev l hn hs hm k ((List.range k).map fun k : Nat => mostR (l.map tup) m (k : Int) (l.map tup)) (by simp; omega) last _ (by rw [show wrap64 ((k : Int) + 1) = ((k + 1 : Nat) : Int) by rw [wrap_id] <;> omega]; exact nx) m 0 (by omega) (by omega)
    simpa [whenL] using this
/-! ### what slots cost: the program -/
def heldL (s : Nat) (Q : List Sl) : List Int := (List.range s).map fun k : Nat => (Q.foldl (stp (k : Int)) (0, 0)).1
def mostL (s : Nat) (Q : List Sl) : List Int := (List.range s).map fun k : Nat => (Q.foldl (stp (k : Int)) (0, 0)).2
theorem heldL_len (s : Nat) (Q : List Sl) : (heldL s Q).length = s := by simp [heldL]
theorem mostL_len (s : Nat) (Q : List Sl) : (mostL s Q).length = s := by simp [mostL]
theorem heldL_at {s : Nat} (Q : List Sl) {i : Nat} (h : i < s) : rd (heldL s Q) (i : Int) = (Q.foldl (stp (i : Int)) (0, 0)).1 := by
  rw [rd_at (by rw [heldL_len]; exact h)]
  simp [heldL]
theorem mostL_at {s : Nat} (Q : List Sl) {i : Nat} (h : i < s) : rd (mostL s Q) (i : Int) = (Q.foldl (stp (i : Int)) (0, 0)).2 := by
  rw [rd_at (by rw [mostL_len]; exact h)]
  simp [mostL]
theorem held_snoc {s : Nat} (Q : List Sl) (x : Sl) {g : Nat} (hg : x.2.1 = (g : Int)) (hs : g < s) (v : Int) (hv : v = ((Q ++ [x]).foldl (stp (g : Int)) (0, 0)).1) : (heldL s Q).set g v = heldL s (Q ++ [x]) := by
  refine List.ext_getElem (by rw [List.length_set, heldL_len, heldL_len]) fun i h1 h2 => ?_
  rw [List.getElem_set]
  simp only [heldL, List.getElem_map, List.getElem_range]
  split
  · next e => subst e; exact hv
  · next e =>
    rw [List.foldl_append, List.foldl_cons, List.foldl_nil]
    rw [show ∀ a, stp (i : Int) a x = a from fun a => by unfold stp; rw [if_neg (by omega)]]
theorem most_snoc {s : Nat} (Q : List Sl) (x : Sl) {g : Nat} (hg : x.2.1 = (g : Int)) (hs : g < s) (v : Int) (hv : v = ((Q ++ [x]).foldl (stp (g : Int)) (0, 0)).2) : (mostL s Q).set g v = mostL s (Q ++ [x]) := by
  refine List.ext_getElem (by rw [List.length_set, mostL_len, mostL_len]) fun i h1 h2 => ?_
  rw [List.getElem_set]
  simp only [mostL, List.getElem_map, List.getElem_range]
  split
  · next e => subst e; exact hv
  · next e =>
    rw [List.foldl_append, List.foldl_cons, List.foldl_nil]
    rw [show ∀ a, stp (i : Int) a x = a from fun a => by unfold stp; rw [if_neg (by omega)]]
theorem most_same {s : Nat} (Q : List Sl) (x : Sl) (hb : x.2.2.2 = true) : mostL s Q = mostL s (Q ++ [x]) := by
  unfold mostL
  refine List.map_congr_left fun k _ => ?_
  rw [List.foldl_append, List.foldl_cons, List.foldl_nil]
  unfold stp
  split
  · rw [if_neg (by simp [hb])]
  · rfl
theorem stp_bound (k : Int) (Q : List Sl) : -(Q.length : Int) ≤ (Q.foldl (stp k) (0, 0)).1 ∧ (Q.foldl (stp k) (0, 0)).1 ≤ Q.length := by
  rw [fold1]
  have h1 := List.countP_le_length (p := isF k false) (l := Q)
  have h2 := List.countP_le_length (p := isF k true) (l := Q)
  simp only
  omega
theorem stp_f {k : Int} {a : Int × Int} {x : Sl} (h1 : x.2.1 = k) (h2 : x.2.2.2 = false) : stp k a x = (a.1 + 1, max a.2 (a.1 + 1)) := by
  unfold stp
  rw [if_pos h1, if_pos h2]
theorem stp_b {k : Int} {a : Int × Int} {x : Sl} (h1 : x.2.1 = k) (h2 : x.2.2.2 = true) : stp k a x = (a.1 - 1, a.2) := by
  unfold stp
  rw [if_pos h1, if_neg (by simp [h2])]
theorem mx_max (a b : Int) : mx a b = max a b := by
  unfold mx
  split <;> omega
theorem p0_ev (l : List S82) (hn : l.length ≤ 1048576) (h0 : 0 < l.length) {s m : Nat} (hs : s ≤ 32) (hw : ∀ x ∈ l.map tup, 0 ≤ x.1 ∧ (0 ≤ x.2.1 ∧ x.2.1 < (s : Int)) ∧ (0 ≤ x.2.2.1 ∧ x.2.2.1 < (m : Int))) :
    ∀ d j : Nat, l.length - j = d → j ≤ l.length → Ev (fun n => impl_SlotCost.l0 n l (heldL s ((l.map tup).take j)) (mostL s ((l.map tup).take j)) l (l.length : Int) (j : Int)) (wrap64 ((l.getD (l.length - 1) z82).f0 + 1), mostL s (l.map tup)) := by
  intro d
  induction d with
  | zero =>
    intro j hd hj
    refine Ev.succ ?_
    simp only [impl_SlotCost.l0]
    have e1 : wrap64 ((l.length : Int) - 1) = ((l.length - 1 : Nat) : Int) := by rw [wrap_id] <;> omega
    refine Ev.neg (by omega) ?_
    rw [e1]
    refine Ev.pos (by omega) (Ev.pos (by omega) (Ev.some ?_))
    rw [atS (show l.length - 1 < l.length by omega), ← getDS (show l.length - 1 < l.length by omega), List.take_of_length_le (by rw [List.length_map]; omega)]
  | succ d ih =>
    intro j hd hj
    refine Ev.succ ?_
    simp only [impl_SlotCost.l0]
    have hlt : j < l.length := by omega
    have hlt' : j < (l.map tup).length := by rw [List.length_map]; exact hlt
    have hx := hw (tup l[j]) (List.mem_map.2 ⟨_, List.getElem_mem hlt, rfl⟩)
    simp only [tup] at hx
    obtain ⟨g, hg⟩ : ∃ g : Nat, l[j].f1 = g := ⟨l[j].f1.toNat, by omega⟩
    have hgs : g < s := by omega
    have nx := ih (j + 1) (by omega) (by omega)
    have e2 : (l.map tup).take (j + 1) = (l.map tup).take j ++ [tup l[j]] := by
      rw [List.take_succ_eq_append_getElem hlt', List.getElem_map]
    rw [e2] at nx
    have hb := stp_bound (g : Int) ((l.map tup).take j)
    have hb2 : ((l.map tup).take j).length ≤ 1048576 := by rw [List.length_take, List.length_map]; omega
    have fs : ((l.map tup).take j ++ [tup l[j]]).foldl (stp (g : Int)) (0, 0) = stp (g : Int) (((l.map tup).take j).foldl (stp (g : Int)) (0, 0)) (tup l[j]) := by
      rw [List.foldl_append, List.foldl_cons, List.foldl_nil]
    refine Ev.pos (by omega) (Ev.pos (by omega) (Ev.pos (by omega) ?_))
    rw [atS hlt, hg, up j hlt (by omega), heldL_at _ hgs, Int.toNat_natCast]
    have q1 : (tup l[j]).2.1 = (g : Int) := hg
    refine Ev.ite (fun h => ?_) (fun h => ?_)
    · refine Ev.pos (by omega) (Ev.pos (by rw [heldL_len]; omega) ?_)
      rw [held_snoc _ (tup l[j]) q1 hgs _ (by
        rw [fs, stp_b q1 (by simpa [tup] using h), wrap_id (by omega) (by omega)]), most_same _ (tup l[j]) (by simpa [tup] using h)]
      exact nx
    · refine Ev.pos (by omega) (Ev.pos (by rw [heldL_len]; omega) ?_)
      have e3 := held_snoc ((l.map tup).take j) (tup l[j]) q1 hgs (wrap64 ((((l.map tup).take j).foldl (stp (g : Int)) (0, 0)).1 + 1)) (by
        rw [fs, stp_f q1 (by simpa [tup] using h), wrap_id (by omega) (by omega)])
      rw [e3]
      refine Ev.b rfl (Ev.pos (by rw [mostL_len]; omega) ?_)
      rw [heldL_at _ hgs, mostL_at _ hgs, most_snoc _ (tup l[j]) q1 hgs _ (by
        rw [fs, stp_f q1 (by simpa [tup] using h), mx_max])]
      exact nx
theorem sorted_of (l : List S82) {s m : Nat} (h : ∀ j, 0 ≤ j → j < l.length → goodB l s m j = true) : (l.map tup).Pairwise lt2 := by
  have one : ∀ j, j + 1 < l.length → ∀ (h1 : j < l.length) (h2 : j + 1 < l.length), lt2 (tup l[j]) (tup l[j + 1]) := by
    intro j hj h1 h2
    have := h (j + 1) (by omega) hj
    simp only [goodB, Bool.and_eq_true, Bool.or_eq_true, Bool.not_eq_true', decide_eq_true_eq, decide_eq_false_iff_not, getDS h2, Nat.add_sub_cancel, getDS h1, Bool.or_eq_false_iff, Bool.and_eq_false_iff] at this
    unfold lt2 tup
    simp only
    omega
  have far : ∀ d j (h1 : j < l.length) (h2 : j + d + 1 < l.length), lt2 (tup l[j]) (tup (l[j + d + 1]'h2)) := by
    intro d
    induction d with
    | zero => exact fun j h1 h2 => one j h2 h1 h2
    | succ d ih =>
      intro j h1 h2
      have a1 := ih j h1 (by omega)
      have a2 := one (j + d + 1) (by omega) (by omega) (by omega)
      have e : tup (l[j + (d + 1) + 1]'h2) = tup (l[j + d + 1 + 1]'(by omega)) := by congr 1
      rw [e]
      unfold lt2 at a1 a2 ⊢
      omega
  rw [List.pairwise_iff_getElem]
  intro i j hi hj hij
  rw [List.getElem_map, List.getElem_map]
  rw [List.length_map] at hi hj
  have := far (j - i - 1) i hi (by omega)
  have e : tup (l[i + (j - i - 1) + 1]'(by omega)) = tup l[j] := by congr 2; omega
  rw [e] at this
  exact this
theorem cost_both (l : List S82) (hn : l.length ≤ 1048576) (a b : Int) : ∃ v : Int × List Int, Ev (fun k => spec_SlotCost.f k l a b) v ∧ Ev (fun k => impl_SlotCost.f k l a b) v ∧ v.2.length ≤ 32 := by
  obtain ⟨t, e1, e2, ht⟩ := slots_both l hn a b
  unfold spec_SlotCost.f impl_SlotCost.f
  cases t with
  | false => exact ⟨(0, []), Ev.b rfl (Ev.bind e1 (Ev.neg (by simp) (Ev.some rfl))), Ev.bind e2 (Ev.neg (by simp) (Ev.some rfl)), by simp⟩
  | true =>
    obtain ⟨s, m, rfl, rfl, hs1, hs2, hm1, hm2, hl, hg, hr⟩ := ht rfl
    have h0 : 0 < l.length := by
      rw [hl]
      exact Nat.mul_pos (by omega) (by omega)
    have hw := all_good hg
    have hso := sorted_of l hg
    have e3 : wrap64 ((l.length : Int) - 1) = ((l.length - 1 : Nat) : Int) := by rw [wrap_id] <;> omega
    have p := p0_ev l hn h0 (s := s) (m := m) hs2 hw l.length 0 (by omega) (by omega)
    have c := c0_ev l hn hs2 hm2 (l.getD (l.length - 1) z82).f0 s 0 (by omega) (by omega)
    have ee : mostL s (l.map tup) = (List.range s).map fun k : Nat => mostR (l.map tup) m (k : Int) (l.map tup) := by
      unfold mostL mostR
      refine List.map_congr_left fun k hk => ?_
      have := List.mem_range.1 hk
      exact most_is (by rw [List.length_map]; exact hl) hw hso hr (by omega)
    refine ⟨(wrap64 ((l.getD (l.length - 1) z82).f0 + 1), mostL s (l.map tup)), Ev.b rfl (Ev.bind e1 (Ev.pos rfl ?_)), Ev.bind e2 (Ev.pos rfl (Ev.pos (by omega) (Ev.pos (by omega) ?_))), ?_⟩
    · rw [e3]
      refine Ev.pos (by omega) (Ev.pos (by omega) ?_)
      rw [atS (show l.length - 1 < l.length by omega), ← getDS (show l.length - 1 < l.length by omega), ee]
      simpa using c
    · have z1 : heldL s ((l.map tup).take 0) = List.replicate s 0 := by
        refine List.eq_replicate_iff.2 ⟨heldL_len _ _, fun b hb => ?_⟩
        obtain ⟨i, _, rfl⟩ := List.mem_map.1 hb
        rfl
      have z2 : mostL s ((l.map tup).take 0) = List.replicate s 0 := by
        refine List.eq_replicate_iff.2 ⟨mostL_len _ _, fun b hb => ?_⟩
        obtain ⟨i, _, rfl⟩ := List.mem_map.1 hb
        rfl
      rw [z1, z2] at p
      rw [Int.toNat_natCast]
      exact p
    · rw [mostL_len]
      exact hs2
theorem markS_l : ∀ (d i : Nat) (L : List S82) (a : Int), L.length - i = d → i ≤ L.length → L.length ≤ 1048576 → 0 ≤ a → a ≤ 1 + 4 * (i : Int) → ∃ L', Ev (fun k => laws_markSlotS.l0 k L a (i : Int)) (a + 4 * d, L') := by
  intro d
  induction d with
  | zero =>
    intro i L a hd hi hn h0 h1
    refine ⟨L, Ev.succ ?_⟩
    simp only [laws_markSlotS.l0]
    exact Ev.neg (by omega) (Ev.some (by simp))
  | succ d ih =>
    intro i L a hd hi hn h0 h1
    have hlt : i < L.length := by omega
    obtain ⟨L', h⟩ := ih (i + 1) ((((L.set i ⟨a, (rd_T82 L (i : Int)).f1, (rd_T82 L (i : Int)).f2, (rd_T82 L (i : Int)).f3⟩).set i ⟨(rd_T82 (L.set i ⟨a, (rd_T82 L (i : Int)).f1, (rd_T82 L (i : Int)).f2, (rd_T82 L (i : Int)).f3⟩) (i : Int)).f0, wrap64 (a + 1), (rd_T82 (L.set i ⟨a, (rd_T82 L (i : Int)).f1, (rd_T82 L (i : Int)).f2, (rd_T82 L (i : Int)).f3⟩) (i : Int)).f2, (rd_T82 (L.set i ⟨a, (rd_T82 L (i : Int)).f1, (rd_T82 L (i : Int)).f2, (rd_T82 L (i : Int)).f3⟩) (i : Int)).f3⟩).set i _).set i _) (a + 4) (by simp; omega) (by simp; omega) (by simpa using hn) (by omega) (by omega)
    refine ⟨L', Ev.succ ?_⟩
    simp only [laws_markSlotS.l0]
    refine Ev.pos (by omega) (Ev.pos (by omega) (Ev.b rfl (Ev.b rfl (Ev.b rfl ?_))))
    rw [Int.toNat_natCast, up i hlt (by omega)]
    have e : wrap64 (wrap64 (wrap64 (wrap64 (a + 1) + 1) + 1) + 1) = a + 4 := by
      rw [wrap_id (n := a + 1) (by omega) (by omega), wrap_id (n := a + 1 + 1) (by omega) (by omega), wrap_id (n := a + 1 + 1 + 1) (by omega) (by omega), wrap_id] <;> omega
    rw [e, show a + 4 * ((d + 1 : Nat) : Int) = a + 4 + 4 * (d : Int) by omega]
    exact h
theorem markS_ev (L : List S82) (hn : L.length ≤ 1048576) : ∃ L', Ev (fun k => laws_markSlotS.f k L 1) (1 + 4 * (L.length : Int), L') := by
  unfold laws_markSlotS.f
  have := markS_l L.length 0 L 1 (by omega) (by omega) hn (by omega) (by omega)
  simpa using this
theorem FnExactSlotCost (l : List S85) (a b : Int) {good : S85 → Prop} (hg : l.length ≤ maxLen ∧ ∀ y ∈ l, good y) : ∃ k, laws_FnExactSlotCost.f k l a b = some true := by
  have hm : l.length ≤ 9223372036854775807 := hg.1
  apply Ev.rounds
  unfold laws_FnExactSlotCost.f laws_szSlotS.f
  rw [wrap_id (by omega) (by omega)]
  by_cases h : (1048576 : Int) - (l.length : Int) < 0
  · rw [if_pos h]
    exact Ev.b rfl (Ev.pos (by omega) (Ev.some rfl))
  · rw [if_neg h]
    have t := toS_ev l (by omega)
    have hl : (l.map convS).length = l.length := List.length_map _
    obtain ⟨⟨c, M⟩, e1, e2, hM⟩ := cost_both (l.map convS) (by omega) a b
    simp only at hM
    obtain ⟨L', mk⟩ := markS_ev (l.map convS) (by omega)
    have eqM := eqIntS_ev M (by omega)
    have mkM := mark_ev M 1 (by omega) (by omega)
    have hdM := held_ev M.length 1 (by omega) (by omega)
    refine Ev.b rfl (Ev.neg h (Ev.bind t (Ev.bind e1 (Ev.bind t (Ev.bind e2 (Ev.pos rfl (Ev.bind eqM (Ev.succ ?_))))))))
    simp only [laws_FnExactSlotCost.j0]
    refine Ev.neg (by simp) (Ev.bind t (Ev.bind (eqS_ev _ (by omega)) (Ev.pos rfl (Ev.bind mk (Ev.neg (by simp only; omega) (Ev.pos trivial (Ev.bind eqM (Ev.succ ?_))))))))
    simp only [laws_FnExactSlotCost.j1]
    refine Ev.neg (by simp) (Ev.bind mkM (Ev.bind hdM (Ev.neg (by omega) (Ev.pos rfl (Ev.bind t (Ev.bind e2 (Ev.pos rfl (Ev.bind eqM (Ev.succ ?_)))))))))
    simp only [laws_FnExactSlotCost.j2]
    exact Ev.neg (by simp) (Ev.bind hdM (Ev.neg (by omega) (Ev.pos rfl (Ev.some rfl))))
end Go.Proofs.Ytpoblnigmfbnfac.PureFnExactSlotCost
