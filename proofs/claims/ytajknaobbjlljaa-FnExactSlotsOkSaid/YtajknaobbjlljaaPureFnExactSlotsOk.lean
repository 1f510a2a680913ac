/- The pure statement of FnExactSlotsOk: program and reference agree on which slots are right. -/
import Derived.Test.YtajknaobbjlljaaPFnExactSlotsOkx
import Derived.Test.YtajknaobbjlljaaBase

namespace Go.Proofs.Ytajknaobbjlljaa.PureFnExactSlotsOk
set_option linter.unusedVariables false
set_option linter.unusedSimpArgs false
open Go.RowKit Go.Proofs.Ytajknaobbjlljaa.PFnExactSlotsOk Go.Proofs.YtajknaobbjlljaaW.PrintWords Go.Proofs.YtajknaobbjlljaaW.PrintLast Go.Proofs.YtajknaobbjlljaaW.PrintMore Go.Proofs.Ytajknaobbjlljaa.Base 
/-! ### the plain law of slots -/
abbrev Ky := Int × Int × Bool
abbrev Sl := Int × Ky
def whenF : List Sl → Ky → Int
  | [], _ => -1
  | x :: l, k => if x.2 = k then x.1 else whenF l k
def keysOf (s m : Nat) : List Ky := (List.range s).flatMap fun (k : Nat) => (List.range m).flatMap fun (i : Nat) => [((k : Int), (i : Int), false), ((k : Int), (i : Int), true)]
theorem nodup_of_sub {a b : List Ky} (ha : a.Nodup) (h : a ⊆ b) (hl : b.length ≤ a.length) : b.Nodup := by
  -- if b has a repeat, striking it leaves a in a shorter list
  induction b generalizing a with
  | nil => exact List.nodup_nil
  | cons x l ih =>
    by_cases hx : x ∈ l
    · have : a ⊆ l := fun y hy => by
        rcases List.mem_cons.1 (h hy) with rfl | h1
        · exact hx
        · exact h1
      have := ha.length_le_of_subset this
      simp at hl
      omega
    · refine List.nodup_cons.2 ⟨hx, ih (a := a.erase x) (ha.erase x) (fun y hy => ?_) ?_⟩
      · have h1 := (ha.mem_erase_iff).1 hy
        rcases List.mem_cons.1 (h h1.2) with rfl | h2
        · exact absurd rfl h1.1
        · exact h2
      · have := List.length_erase_le (a := x) (l := a)
        rw [List.length_erase]
        simp at hl
        split <;> omega
theorem sub_of_nodup {a b : List Ky} (ha : a.Nodup) (h : a ⊆ b) (hl : b.length ≤ a.length) : b ⊆ a := by
  intro x hx
  by_cases hxa : x ∈ a
  · exact hxa
  · have h1 : a ⊆ b.erase x := fun y hy => (List.mem_erase_of_ne (by rintro rfl; exact hxa hy)).2 (h hy)
    have h2 := ha.length_le_of_subset h1
    rw [List.length_erase_of_mem hx] at h2
    have := List.length_pos_of_mem hx
    omega
theorem mem_keysOf {s m : Nat} {k i : Int} {b : Bool} : (k, i, b) ∈ keysOf s m ↔ (0 ≤ k ∧ k < s) ∧ (0 ≤ i ∧ i < m) := by
  simp only [keysOf, List.mem_flatMap, List.mem_range, List.mem_cons, Prod.mk.injEq, List.not_mem_nil, or_false]
  constructor
  · rintro ⟨k', hk, i', hi, (⟨rfl, rfl, rfl⟩ | ⟨rfl, rfl, rfl⟩)⟩ <;> omega
  · rintro ⟨⟨h1, h2⟩, h3, h4⟩
    refine ⟨k.toNat, by omega, i.toNat, by omega, ?_⟩
    cases b
    · exact .inl ⟨by omega, by omega, rfl⟩
    · exact .inr ⟨by omega, by omega, rfl⟩
theorem length_flat (f : Nat → List Ky) (c : Nat) : ∀ n, (∀ i, (f i).length = c) → ((List.range n).flatMap f).length = n * c
  | 0, _ => by simp
  | n + 1, h => by
    rw [List.range_succ, List.flatMap_append, List.length_append, length_flat f c n h]
    simp [h, Nat.add_mul]
theorem length_keysOf (s m : Nat) : (keysOf s m).length = s * (m * 2) :=
  length_flat _ _ _ (fun _ => length_flat _ _ _ (fun _ => rfl))
theorem nodup_flat (f : Nat → List Ky) : ∀ n, (∀ i, i < n → (f i).Nodup) → (∀ i j x, i < n → j < n → x ∈ f i → x ∈ f j → i = j) → ((List.range n).flatMap f).Nodup
  | 0, _, _ => by simp
  | n + 1, h1, h2 => by
    rw [List.range_succ, List.flatMap_append]
    refine List.nodup_append.2 ⟨nodup_flat f n (fun i hi => h1 i (by omega)) (fun i j x hi hj => h2 i j x (by omega) (by omega)), by simpa using h1 n (by omega), ?_⟩
    intro a ha b hb e
    subst e
    obtain ⟨i, hi, hai⟩ := List.mem_flatMap.1 ha
    have hb' : a ∈ f n := by simpa using hb
    have := h2 i n a (by have := List.mem_range.1 hi; omega) (by omega) hai hb'
    have := List.mem_range.1 hi
    omega
theorem nodup_keysOf (s m : Nat) : (keysOf s m).Nodup := by
  refine nodup_flat _ _ (fun k _ => nodup_flat _ _ (fun i _ => by simp) (fun i j x _ _ hi hj => ?_)) (fun i j x _ _ hi hj => ?_)
  · simp at hi hj
    rcases hi with rfl | rfl <;> rcases hj with h | h <;> simp at h <;> omega
  · obtain ⟨p, hp, h1⟩ := List.mem_flatMap.1 hi
    obtain ⟨q, hq, h2⟩ := List.mem_flatMap.1 hj
    simp at h1 h2
    rcases h1 with rfl | rfl <;> rcases h2 with h | h <;> simp at h <;> omega
theorem when_none {l : List Sl} {k : Ky} (h : k ∉ l.map (·.2)) : whenF l k = -1 := by
  induction l with
  | nil => rfl
  | cons x l ih =>
    simp at h
    simp only [whenF]
    rw [if_neg (fun e => h.1 e.symm)]
    exact ih (by simpa using h.2)
theorem when_mem {l : List Sl} {k : Ky} (h : k ∈ l.map (·.2)) : ∃ t, (t, k) ∈ l ∧ whenF l k = t := by
  induction l with
  | nil => simp at h
  | cons x l ih =>
    simp only [whenF]
    by_cases e : x.2 = k
    · rw [if_pos e]
      exact ⟨x.1, by subst e; simp, rfl⟩
    · rw [if_neg e]
      have h1 : k ∈ l.map (·.2) := by
        simp only [List.map_cons, List.mem_cons] at h
        rcases h with h | h
        · exact absurd h.symm e
        · exact h
      obtain ⟨t, h2, h3⟩ := ih h1
      exact ⟨t, List.mem_cons_of_mem _ h2, h3⟩
theorem when_eq {l : List Sl} (hn : (l.map (·.2)).Nodup) {t : Int} {k : Ky} (h : (t, k) ∈ l) : whenF l k = t := by
  induction l with
  | nil => simp at h
  | cons x l ih =>
    simp only [List.map_cons, List.nodup_cons] at hn
    simp only [whenF]
    rcases List.mem_cons.1 h with h1 | h1
    · subst h1
      simp
    · rw [if_neg (fun e => hn.1 (by subst e; exact List.mem_map.2 ⟨_, h1, rfl⟩))]
      exact ih hn.2 h1
def aheadOf (s : Int) (k : Ky) : Option Ky := if k.2.2 = false then (if 0 < k.1 then some (k.1 - 1, k.2.1, false) else none) else if k.1 = s - 1 then some (k.1, k.2.1, false) else some (k.1 + 1, k.2.1, true)
def Prog (s m : Nat) (l : List Sl) : Prop := (l.map (·.2)).Nodup ∧ ∀ x ∈ l, ∀ a, aheadOf s x.2 = some a → (if a ∈ l.map (·.2) then whenF l a else 0) < x.1
def Ref (s m : Nat) (l : List Sl) : Prop := ∀ k i : Int, 0 ≤ k → k < s → 0 ≤ i → i < m →
  0 ≤ whenF l (k, i, false) ∧ 0 ≤ whenF l (k, i, true) ∧ (0 < k → whenF l (k - 1, i, false) < whenF l (k, i, false)) ∧ (k = s - 1 → whenF l (k, i, false) < whenF l (k, i, true)) ∧ (k < s - 1 → whenF l (k + 1, i, true) < whenF l (k, i, true))
theorem prog_ref {s m : Nat} {l : List Sl} (hl : l.length = 2 * s * m) (hw : ∀ x ∈ l, 0 ≤ x.1 ∧ (0 ≤ x.2.1 ∧ x.2.1 < s) ∧ (0 ≤ x.2.2.1 ∧ x.2.2.1 < m)) : Prog s m l ↔ Ref s m l := by
  have hsub : l.map (·.2) ⊆ keysOf s m := fun k hk => by
    obtain ⟨x, hx, rfl⟩ := List.mem_map.1 hk
    obtain ⟨t, k, i, b⟩ := x
    exact mem_keysOf.2 (hw _ hx).2
  have hlen : (l.map (·.2)).length = (keysOf s m).length := by
    rw [List.length_map, hl, length_keysOf, Nat.mul_comm 2 s, Nat.mul_assoc, Nat.mul_comm 2 m]
  constructor
  · rintro ⟨hn, ha⟩ k i hk0 hk1 hi0 hi1
    have hall := sub_of_nodup hn hsub (by omega)
    have hin : ∀ k i b, 0 ≤ k → k < (s : Int) → 0 ≤ i → i < (m : Int) → (k, i, b) ∈ l.map (·.2) := fun k i b h1 h2 h3 h4 => hall (mem_keysOf.2 ⟨⟨h1, h2⟩, h3, h4⟩)
    have hpos : ∀ k i b, 0 ≤ k → k < (s : Int) → 0 ≤ i → i < (m : Int) → 0 ≤ whenF l (k, i, b) := fun k i b h1 h2 h3 h4 => by
      obtain ⟨t, h5, h6⟩ := when_mem (hin k i b h1 h2 h3 h4)
      rw [h6]
      exact (hw _ h5).1
    have hahead : ∀ k i b a, 0 ≤ k → k < (s : Int) → 0 ≤ i → i < (m : Int) → aheadOf s (k, i, b) = some a → a ∈ l.map (·.2) → whenF l a < whenF l (k, i, b) := fun k i b a h1 h2 h3 h4 h5 h6 => by
      obtain ⟨t, h7, h8⟩ := when_mem (hin k i b h1 h2 h3 h4)
      rw [h8]
      have := ha _ h7 a h5
      rwa [if_pos h6] at this
    refine ⟨hpos _ _ _ hk0 hk1 hi0 hi1, hpos _ _ _ hk0 hk1 hi0 hi1, fun h => ?_, fun h => ?_, fun h => ?_⟩
    · exact hahead k i false _ hk0 hk1 hi0 hi1 (by simp [aheadOf, h]) (hin _ _ _ (by omega) (by omega) hi0 hi1)
    · exact hahead k i true _ hk0 hk1 hi0 hi1 (by simp [aheadOf, h]) (hin _ _ _ hk0 hk1 hi0 hi1)
    · exact hahead k i true _ hk0 hk1 hi0 hi1 (by have hne : ¬ k = (s : Int) - 1 := (by omega); simp [aheadOf, hne]) (hin _ _ _ (by omega) (by omega) hi0 hi1)
  · intro hr
    have hall : keysOf s m ⊆ l.map (·.2) := fun x hx => by
      obtain ⟨k, i, b⟩ := x
      obtain ⟨⟨h1, h2⟩, h3, h4⟩ := mem_keysOf.1 hx
      refine Decidable.byContradiction fun hne => ?_
      have h5 := when_none hne
      have h6 := hr k i h1 h2 h3 h4
      cases b
      · omega
      · omega
    have hn := nodup_of_sub (nodup_keysOf s m) hall (by omega)
    refine ⟨hn, fun x hx a h => ?_⟩
    obtain ⟨t, k, i, b⟩ := x
    obtain ⟨h0, ⟨h1, h2⟩, h3, h4⟩ := hw _ hx
    have hin : ∀ k i b, 0 ≤ k → k < (s : Int) → 0 ≤ i → i < (m : Int) → (k, i, b) ∈ l.map (·.2) := fun k i b h1 h2 h3 h4 => hall (mem_keysOf.2 ⟨⟨h1, h2⟩, h3, h4⟩)
    have hr1 := hr k i h1 h2 h3 h4
    have ht : whenF l (k, i, b) = t := when_eq hn hx
    show (if a ∈ l.map (·.2) then whenF l a else 0) < t
    replace h1 : 0 ≤ k := h1
    replace h2 : k < s := h2
    replace h3 : 0 ≤ i := h3
    replace h4 : i < m := h4
    replace h : aheadOf s (k, i, b) = some a := h
    cases b with
    | false =>
      by_cases h7 : 0 < k
      · simp [aheadOf, h7] at h
        subst h
        rw [if_pos (hin _ _ _ (by omega) (by omega) h3 h4)]
        have := hr1.2.2.1 h7
        omega
      · simp [aheadOf, h7] at h
    | true =>
      by_cases h7 : k = (s : Int) - 1
      · simp [aheadOf, h7] at h
        subst h
        rw [if_pos (hin _ _ _ (by omega) (by omega) h3 h4)]
        have := hr1.2.2.2.1 h7
        rw [h7] at this ht
        omega
      · simp [aheadOf, h7] at h
        subst h
        rw [if_pos (hin _ _ _ (by omega) (by omega) h3 h4)]
        have := hr1.2.2.2.2 (by omega)
        omega
/-! ### slots taken over and held against each other -/
theorem atS {l : List S90} {i : Nat} (h : i < l.length) : rd_T90 l (i : Int) = l[i] := getD_at h
theorem atL {l : List S93} {i : Nat} (h : i < l.length) : rd_T93 l (i : Int) = l[i] := getD_at h
def convS (x : S93) : S90 := ⟨x.f0, x.f1, x.f2, x.f3⟩
theorem toS_l (l : List S93) (hn : l.length ≤ 9223372036854775807) : ∀ (d i : Nat), l.length - i = d → i ≤ l.length → Ev (fun k => laws_toSlotS.l0 k l ((l.map convS).take i ++ List.replicate ((l.map convS).length - i) z90) (i : Int)) (l.map convS) := by
  intro d
  induction d with
  | zero =>
    intro i hd hi
    refine Ev.succ ?_
    simp only [laws_toSlotS.l0]
    refine Ev.neg (by omega) (Ev.some ?_)
    rw [List.length_map, hd, List.take_of_length_le (by simp; omega)]
    simp
  | succ d ih =>
    intro i hd hi
    refine Ev.succ ?_
    simp only [laws_toSlotS.l0]
    have hlt : i < l.length := by omega
    have hlt' : i < (l.map convS).length := by simpa using hlt
    refine Ev.pos (by omega) (Ev.pos (by omega) ?_)
    simp only [laws_toSlot.f, Option.bind_some]
    refine Ev.pos (by simp; omega) ?_
    rw [atL hlt, up i hlt hn, Int.toNat_natCast]
    have := set_fill (z := z90) hlt'
    rw [show (⟨l[i].f0, l[i].f1, l[i].f2, l[i].f3⟩ : S90) = (l.map convS)[i] by rw [List.getElem_map]; rfl, this]
    exact ih (i + 1) (by omega) (by omega)
theorem toS_ev (l : List S93) (h : l.length ≤ 8796093022208) : Ev (fun k => laws_toSlotS.f k l) (l.map convS) := by
  unfold laws_toSlotS.f
  refine Ev.pos (by omega) (Ev.pos (by omega) ?_)
  have := toS_l l (by omega) l.length 0 (by omega) (by omega)
  simpa using this
theorem eqS_l (l : List S90) (hn : l.length ≤ 9223372036854775807) : ∀ (d i : Nat), l.length - i = d → i ≤ l.length → Ev (fun k => laws_eqSlotS.l0 k l l (i : Int)) true := by
  intro d
  induction d with
  | zero =>
    intro i hd hi
    refine Ev.succ ?_
    simp only [laws_eqSlotS.l0]
    exact Ev.neg (by omega) (Ev.some rfl)
  | succ d ih =>
    intro i hd hi
    refine Ev.succ ?_
    simp only [laws_eqSlotS.l0]
    have hlt : i < l.length := by omega
    refine Ev.pos (by omega) (Ev.pos (by omega) (Ev.pos (by omega) (Ev.b (a := true) (by simp [laws_eqSlot.f]) (Ev.pos rfl ?_))))
    rw [up i hlt hn]
    exact ih (i + 1) (by omega) (by omega)
theorem eqS_ev (l : List S90) (h : l.length ≤ 8796093022208) : Ev (fun k => laws_eqSlotS.f k l l) true := by
  unfold laws_eqSlotS.f
  exact Ev.pos rfl (eqS_l l (by omega) l.length 0 (by omega) (by omega))
/-! ### which slots are right -/
theorem within_f (a b c : Int) : impl_within.f a b c = some (decide (b ≤ a) && decide (a ≤ c)) := by
  unfold impl_within.f
  by_cases h : b ≤ a
  · rw [if_pos (show a ≥ b from h)]
    simp [h]
  · rw [if_neg (show ¬ a ≥ b from h)]
    simp [h]
theorem l5In_f (a b c : Int) : spec_l5In.f a b c = some (decide (b ≤ a) && decide (a ≤ c)) := within_f a b c
def tup (x : S90) : Sl := (x.f0, x.f1, x.f2, x.f3)
def allUp (p : Nat → Bool) : Nat → Nat → Bool
  | 0, _ => true
  | d + 1, i => p i && allUp p d (i + 1)
theorem allUp_iff (p : Nat → Bool) : ∀ d i, allUp p d i = true ↔ ∀ j, i ≤ j → j < i + d → p j = true
  | 0, i => by simp [allUp]; omega
  | d + 1, i => by
    simp only [allUp, Bool.and_eq_true, allUp_iff p d (i + 1)]
    constructor
    · rintro ⟨h1, h2⟩ j hj hj2
      by_cases e : j = i
      · subst e; exact h1
      · exact h2 j (by omega) (by omega)
    · exact fun h => ⟨h i (by omega) (by omega), fun j hj hj2 => h j (by omega) (by omega)⟩
theorem when_l (l : List S90) (hn : l.length ≤ 9223372036854775807) (a b : Int) (c : Bool) : ∀ (d i : Nat), l.length - i = d → i ≤ l.length → Ev (fun k => spec_l19When.l0 k l a b c (i : Int)) (whenF ((l.drop i).map tup) (a, b, c)) := by
  intro d
  induction d with
  | zero =>
    intro i hd hi
    refine Ev.succ ?_
    simp only [spec_l19When.l0]
    refine Ev.neg (by omega) (Ev.some ?_)
    rw [List.drop_eq_nil_of_le (by omega)]
    rfl
  | succ d ih =>
    intro i hd hi
    refine Ev.succ ?_
    simp only [spec_l19When.l0]
    have hlt : i < l.length := by omega
    refine Ev.pos (by omega) (Ev.pos (by omega) ?_)
    rw [atS hlt, up i hlt hn, drop_at hlt, List.map_cons]
    have hw : whenF (tup l[i] :: (l.drop (i + 1)).map tup) (a, b, c) = if l[i].f1 = a then (if l[i].f2 = b then (if (l[i].f3 == c) = true then l[i].f0 else whenF ((l.drop (i + 1)).map tup) (a, b, c)) else whenF ((l.drop (i + 1)).map tup) (a, b, c)) else whenF ((l.drop (i + 1)).map tup) (a, b, c) := by
      simp only [whenF, tup, Prod.mk.injEq]
      by_cases h1 : l[i].f1 = a <;> by_cases h2 : l[i].f2 = b <;> by_cases h3 : l[i].f3 = c <;> simp [h1, h2, h3]
    rw [hw]
    have rest := ih (i + 1) (by omega) (by omega)
    refine Ev.ite (fun h1 => ?_) (fun h1 => ?_)
    · rw [if_pos h1]
      refine Ev.ite (fun h2 => ?_) (fun h2 => ?_)
      · rw [if_pos h2]
        refine Ev.ite (fun h3 => ?_) (fun h3 => ?_)
        · rw [if_pos h3]
          exact Ev.some rfl
        · rw [if_neg h3]
          exact rest
      · rw [if_neg h2]
        exact rest
    · rw [if_neg h1]
      exact rest
theorem when_ev (l : List S90) (hn : l.length ≤ 9223372036854775807) (a b : Int) (c : Bool) : Ev (fun k => spec_l19When.f k l a b c) (whenF (l.map tup) (a, b, c)) := by
  unfold spec_l19When.f
  have := when_l l hn a b c l.length 0 (by omega) (by omega)
  simpa using this
/-- The reference's question of a stage and a micro. -/
def condB (P : List Sl) (s k i : Nat) : Bool :=
  decide (0 ≤ whenF P ((k : Int), (i : Int), false)) && decide (0 ≤ whenF P ((k : Int), (i : Int), true)) && (!decide (0 < k) || decide (whenF P ((k : Int) - 1, (i : Int), false) < whenF P ((k : Int), (i : Int), false)))
    && (!decide ((k : Int) = (s : Int) - 1) || decide (whenF P ((k : Int), (i : Int), false) < whenF P ((k : Int), (i : Int), true))) && (!decide ((k : Int) < (s : Int) - 1) || decide (whenF P ((k : Int) + 1, (i : Int), true) < whenF P ((k : Int), (i : Int), true)))
theorem j5_ev (l : List S90) (hn : l.length ≤ 9223372036854775807) {s m k i : Nat} (hs : s ≤ 32) (hk : k < s) (hi : i < m) (hm : m ≤ 32) {v : Bool} (hv : Ev (fun n => spec_SlotsOk.l2 n l (s : Int) (m : Int) (k : Int) ((i + 1 : Nat) : Int)) v) (x : Bool) :
    Ev (fun n => spec_SlotsOk.j5 n l (s : Int) (m : Int) (k : Int) (i : Int) (whenF (l.map tup) ((k : Int), (i : Int), false)) (whenF (l.map tup) ((k : Int), (i : Int), true)) x)
      (!x && (!decide ((k : Int) = (s : Int) - 1) || decide (whenF (l.map tup) ((k : Int), (i : Int), false) < whenF (l.map tup) ((k : Int), (i : Int), true))) && (!decide ((k : Int) < (s : Int) - 1) || decide (whenF (l.map tup) ((k : Int) + 1, (i : Int), true) < whenF (l.map tup) ((k : Int), (i : Int), true))) && v) := by
  refine Ev.succ ?_
  simp only [spec_SlotsOk.j5]
  cases x with
  | true => exact Ev.pos rfl (Ev.some (by simp))
  | false =>
    refine Ev.neg (by simp) ?_
    have e1 : wrap64 ((s : Int) - 1) = (s : Int) - 1 := by rw [wrap_id] <;> omega
    have e2 : wrap64 ((k : Int) + 1) = (k : Int) + 1 := by rw [wrap_id] <;> omega
    have e3 : wrap64 ((i : Int) + 1) = ((i + 1 : Nat) : Int) := by rw [wrap_id] <;> omega
    rw [e1, e2, e3]
    have w := when_ev l hn ((k : Int) + 1) (i : Int) true
    refine Ev.ite (fun h1 => ?_) (fun h1 => ?_)
    · refine Ev.ite (fun h2 => Ev.some ?_) (fun h2 => ?_)
      · have : ¬ whenF (l.map tup) ((k : Int), (i : Int), false) < whenF (l.map tup) ((k : Int), (i : Int), true) := by omega
        rw [decide_eq_true h1, decide_eq_false this]
        rfl
      · refine Ev.neg (by omega) ?_
        have h3 : whenF (l.map tup) ((k : Int), (i : Int), false) < whenF (l.map tup) ((k : Int), (i : Int), true) := by omega
        have h4 : ¬ (k : Int) < (s : Int) - 1 := by omega
        rw [decide_eq_true h1, decide_eq_true h3, decide_eq_false h4]
        exact hv
    · have h4 : (k : Int) < (s : Int) - 1 := by omega
      refine Ev.pos h4 (Ev.bind w ?_)
      refine Ev.ite (fun h2 => Ev.some ?_) (fun h2 => ?_)
      · have : ¬ whenF (l.map tup) ((k : Int) + 1, (i : Int), true) < whenF (l.map tup) ((k : Int), (i : Int), true) := by omega
        rw [decide_eq_false h1, decide_eq_true h4, decide_eq_false this]
        rfl
      · have h3 : whenF (l.map tup) ((k : Int) + 1, (i : Int), true) < whenF (l.map tup) ((k : Int), (i : Int), true) := by omega
        rw [decide_eq_false h1, decide_eq_true h4, decide_eq_true h3]
        exact hv
theorem l2_ev (l : List S90) (hn : l.length ≤ 9223372036854775807) {s m k : Nat} (hs : s ≤ 32) (hk : k < s) (hm : m ≤ 32) {v : Bool} (hv : Ev (fun n => spec_SlotsOk.l1 n l (s : Int) (m : Int) ((k + 1 : Nat) : Int)) v) :
    ∀ d i : Nat, m - i = d → i ≤ m → Ev (fun n => spec_SlotsOk.l2 n l (s : Int) (m : Int) (k : Int) (i : Int)) (allUp (condB (l.map tup) s k) d i && v) := by
  intro d
  induction d with
  | zero =>
    intro i hd hi
    refine Ev.succ ?_
    simp only [spec_SlotsOk.l2]
    rw [show wrap64 ((k : Int) + 1) = ((k + 1 : Nat) : Int) by rw [wrap_id] <;> omega]
    exact Ev.neg (by omega) (by simpa [allUp] using hv)
  | succ d ih =>
    intro i hd hi
    refine Ev.succ ?_
    simp only [spec_SlotsOk.l2]
    have hlt : i < m := by omega
    have nx := ih (i + 1) (by omega) (by omega)
    have J := fun x => j5_ev l hn hs hk hlt hm nx x
    have w1 := when_ev l hn (k : Int) (i : Int) false
    have w2 := when_ev l hn (k : Int) (i : Int) true
    refine Ev.pos (by omega) (Ev.bind w1 (Ev.bind w2 ?_))
    simp only [allUp, condB]
    refine Ev.ite (fun h1 => ?_) (fun h1 => ?_)
    · have := J true
      rw [decide_eq_false (show ¬ 0 ≤ whenF (l.map tup) ((k : Int), (i : Int), false) by omega)]
      simpa using this
    · have g1 := decide_eq_true (show 0 ≤ whenF (l.map tup) ((k : Int), (i : Int), false) by omega)
      refine Ev.ite (fun h2 => ?_) (fun h2 => ?_)
      · have := J true
        rw [g1, decide_eq_false (show ¬ 0 ≤ whenF (l.map tup) ((k : Int), (i : Int), true) by omega)]
        simpa using this
      · have g2 := decide_eq_true (show 0 ≤ whenF (l.map tup) ((k : Int), (i : Int), true) by omega)
        refine Ev.ite (fun h3 => ?_) (fun h3 => ?_)
        · rw [show wrap64 ((k : Int) - 1) = (k : Int) - 1 by rw [wrap_id] <;> omega]
          refine Ev.bind (when_ev l hn ((k : Int) - 1) (i : Int) false) ?_
          have := J (decide (whenF (l.map tup) ((k : Int), (i : Int), false) ≤ whenF (l.map tup) ((k : Int) - 1, (i : Int), false)))
          rw [g1, g2, decide_eq_true (show 0 < k by omega)]
          have e : (!decide (whenF (l.map tup) ((k : Int), (i : Int), false) ≤ whenF (l.map tup) ((k : Int) - 1, (i : Int), false))) = decide (whenF (l.map tup) ((k : Int) - 1, (i : Int), false) < whenF (l.map tup) ((k : Int), (i : Int), false)) := by
            by_cases h : whenF (l.map tup) ((k : Int), (i : Int), false) ≤ whenF (l.map tup) ((k : Int) - 1, (i : Int), false)
            · rw [decide_eq_true h, decide_eq_false (by omega)]
              rfl
            · rw [decide_eq_false h, decide_eq_true (by omega)]
              rfl
          rw [e] at this
          simpa only [Bool.true_and, Bool.not_true, Bool.false_or, Bool.and_assoc] using this
        · have := J false
          rw [g1, g2, decide_eq_false (show ¬ 0 < k by omega)]
          simpa only [Bool.true_and, Bool.not_false, Bool.true_or, Bool.and_assoc] using this
theorem l1_ev (l : List S90) (hn : l.length ≤ 9223372036854775807) {s m : Nat} (hs : s ≤ 32) (hm : m ≤ 32) :
    ∀ d k : Nat, s - k = d → k ≤ s → Ev (fun n => spec_SlotsOk.l1 n l (s : Int) (m : Int) (k : Int)) (allUp (fun k => allUp (condB (l.map tup) s k) m 0) d k) := by
  intro d
  induction d with
  | zero =>
    intro k hd hk
    refine Ev.succ ?_
    simp only [spec_SlotsOk.l1]
    exact Ev.neg (by omega) (Ev.some rfl)
  | succ d ih =>
    intro k hd hk
    refine Ev.succ ?_
    simp only [spec_SlotsOk.l1]
    refine Ev.pos (by omega) ?_
    have := l2_ev l hn hs (show k < s by omega) hm (ih (k + 1) (by omega) (by omega)) m 0 (by omega) (by omega)
    simpa only [allUp, Int.natCast_zero] using this
theorem ref_iff (P : List Sl) (s m : Nat) : allUp (fun k => allUp (condB P s k) m 0) s 0 = true ↔ Ref s m P := by
  have key : allUp (fun k => allUp (condB P s k) m 0) s 0 = true ↔ ∀ k i : Nat, k < s → i < m → condB P s k i = true := by
    rw [allUp_iff]
    simp only [allUp_iff]
    exact ⟨fun h k i hk hi => h k (by omega) (by omega) i (by omega) (by omega), fun h k _ hk i _ hi => h k i (by omega) (by omega)⟩
  rw [key]
  have one : ∀ k i : Nat, condB P s k i = true ↔ (0 ≤ whenF P ((k : Int), (i : Int), false) ∧ 0 ≤ whenF P ((k : Int), (i : Int), true) ∧ (0 < (k : Int) → whenF P ((k : Int) - 1, (i : Int), false) < whenF P ((k : Int), (i : Int), false)) ∧ ((k : Int) = (s : Int) - 1 → whenF P ((k : Int), (i : Int), false) < whenF P ((k : Int), (i : Int), true)) ∧ ((k : Int) < (s : Int) - 1 → whenF P ((k : Int) + 1, (i : Int), true) < whenF P ((k : Int), (i : Int), true))) := by
    intro k i
    simp only [condB, Bool.and_eq_true, Bool.or_eq_true, Bool.not_eq_true', decide_eq_true_eq, decide_eq_false_iff_not]
    constructor
    · rintro ⟨⟨⟨⟨h1, h2⟩, h3⟩, h4⟩, h5⟩
      exact ⟨h1, h2, fun h => h3.resolve_left (fun h' => h' (by omega)), fun h => h4.resolve_left (fun h' => h' h), fun h => h5.resolve_left (fun h' => h' h)⟩
    · rintro ⟨h1, h2, h3, h4, h5⟩
      exact ⟨⟨⟨⟨h1, h2⟩, (Decidable.em (0 < k)).symm.imp id (fun h => h3 (by omega))⟩, (Decidable.em _).symm.imp id h4⟩, (Decidable.em _).symm.imp id h5⟩
  constructor
  · intro h k i h1 h2 h3 h4
    have := (one k.toNat i.toNat).1 (h k.toNat i.toNat (by omega) (by omega))
    rw [Int.toNat_of_nonneg h1, Int.toNat_of_nonneg h3] at this
    exact this
  · intro h k i hk hi
    exact (one k i).2 (h k i (by omega) (by omega) (by omega) (by omega))
/-- What both ask of a slot and of the one ahead of it. -/
def goodB (l : List S90) (s m : Nat) (i : Nat) : Bool :=
  (decide (0 ≤ (l.getD i z90).f0) && decide ((l.getD i z90).f0 ≤ 10000)) && ((decide (0 ≤ (l.getD i z90).f1) && decide ((l.getD i z90).f1 ≤ (s : Int) - 1)) && ((decide (0 ≤ (l.getD i z90).f2) && decide ((l.getD i z90).f2 ≤ (m : Int) - 1))
    && (!decide (0 < i) || !(decide ((l.getD (i - 1) z90).f0 > (l.getD i z90).f0) || (decide ((l.getD (i - 1) z90).f0 = (l.getD i z90).f0) && decide ((l.getD (i - 1) z90).f1 ≥ (l.getD i z90).f1))))))
theorem getDS {l : List S90} {i : Nat} (h : i < l.length) : l.getD i z90 = l[i] := by
  rw [List.getD_eq_getElem?_getD, List.getElem?_eq_getElem h, Option.getD_some]
theorem j2_ev (l : List S90) (hn : l.length ≤ 9223372036854775807) {s m i : Nat} (hi : i < l.length) {v : Bool} (hv : Ev (fun n => spec_SlotsOk.l0 n l (s : Int) (m : Int) ((i + 1 : Nat) : Int)) v) (x : Bool) :
    Ev (fun n => spec_SlotsOk.j2 n l (s : Int) (m : Int) (i : Int) x (l.getD i z90).f0 (l.getD i z90).f1 (l.getD i z90).f2 (l.getD i z90).f3)
      (!x && ((!decide (0 < i) || !(decide ((l.getD (i - 1) z90).f0 > (l.getD i z90).f0) || (decide ((l.getD (i - 1) z90).f0 = (l.getD i z90).f0) && decide ((l.getD (i - 1) z90).f1 ≥ (l.getD i z90).f1)))) && v)) := by
  refine Ev.succ ?_
  simp only [spec_SlotsOk.j2]
  cases x with
  | true => exact Ev.pos rfl (Ev.some (by simp))
  | false =>
    refine Ev.neg (by simp) ?_
    rw [up i hi hn]
    refine Ev.ite (fun h1 => ?_) (fun h1 => ?_)
    · have e1 : wrap64 ((i : Int) - 1) = ((i - 1 : Nat) : Int) := by rw [wrap_id] <;> omega
      rw [e1, atS (show i - 1 < l.length by omega), ← getDS (show i - 1 < l.length by omega), decide_eq_true (show 0 < i by omega)]
      refine Ev.pos (by omega) (Ev.pos (by omega) ?_)
      refine Ev.ite (fun h2 => Ev.some ?_) (fun h2 => Ev.ite (fun h3 => Ev.ite (fun h4 => Ev.some ?_) (fun h4 => ?_)) (fun h3 => ?_))
      · rw [decide_eq_true h2]
        rfl
      · rw [decide_eq_true h3, decide_eq_true h4]
        simp
      · rw [decide_eq_false h2, decide_eq_false h4]
        simpa using hv
      · rw [decide_eq_false h2, decide_eq_false h3]
        simpa using hv
    · rw [decide_eq_false (show ¬ 0 < i by omega)]
      simpa using hv
theorem l0_ev (l : List S90) (hn : l.length ≤ 9223372036854775807) {s m : Nat} (hs : s ≤ 32) (hm : m ≤ 32) :
    ∀ d i : Nat, l.length - i = d → i ≤ l.length → Ev (fun n => spec_SlotsOk.l0 n l (s : Int) (m : Int) (i : Int)) (allUp (goodB l s m) d i && allUp (fun k => allUp (condB (l.map tup) s k) m 0) s 0) := by
  intro d
  induction d with
  | zero =>
    intro i hd hi
    refine Ev.succ ?_
    simp only [spec_SlotsOk.l0]
    refine Ev.neg (by omega) ?_
    have := l1_ev l hn hs hm s 0 (by omega) (by omega)
    simpa [allUp] using this
  | succ d ih =>
    intro i hd hi
    refine Ev.succ ?_
    simp only [spec_SlotsOk.l0]
    have hlt : i < l.length := by omega
    have J := fun x => j2_ev l hn hlt (ih (i + 1) (by omega) (by omega)) x
    refine Ev.pos (by omega) (Ev.pos (by omega) ?_)
    rw [atS hlt, ← getDS hlt, show wrap64 ((s : Int) - 1) = (s : Int) - 1 by rw [wrap_id] <;> omega, show wrap64 ((m : Int) - 1) = (m : Int) - 1 by rw [wrap_id] <;> omega]
    simp only [l5In_f, Option.bind_some, allUp, goodB]
    refine Ev.ite (fun h1 => ?_) (fun h1 => ?_)
    · rw [h1]
      refine Ev.ite (fun h2 => ?_) (fun h2 => ?_)
      · rw [h2]
        have := J (!(decide (0 ≤ (l.getD i z90).f2) && decide ((l.getD i z90).f2 ≤ (m : Int) - 1)))
        simpa only [Bool.true_and, Bool.not_not, Bool.and_assoc] using this
      · have := J true
        rw [Bool.eq_false_iff.2 h2]
        simpa using this
    · have := J true
      rw [Bool.eq_false_iff.2 h1]
      simpa using this
/-! ### the program's question -/
theorem cmp_f (a b : Int) : cmp_Compare_int.f a b = some (if a < b then -1 else if a > b then 1 else 0) := by
  unfold cmp_Compare_int.f cmp_isNaN_int.f
  simp only [bne_self_eq_false, Option.bind_some, Bool.false_eq_true, if_false]
  split
  · rfl
  · split <;> rfl
theorem or_ev (a b : Int) : Ev (fun k => cmp_Or_int.f k [a, b]) (if a ≠ 0 then a else b) := by
  unfold cmp_Or_int.f
  refine Ev.succ (Ev.succ (Ev.succ ?_))
  simp only [cmp_Or_int.l0]
  refine Ev.same (f := fun _ => some (if a ≠ 0 then a else b)) (fun k => ?_) (Ev.some rfl)
  by_cases h1 : a = 0 <;> by_cases h2 : b = 0 <;> simp [rd, h1, h2, wrap64]
theorem bySlot_ev (a0 a1 a2 : Int) (a3 : Bool) (b0 b1 b2 : Int) (b3 : Bool) : ∃ c, Ev (fun k => impl_bySlot.f k a0 a1 a2 a3 b0 b1 b2 b3) c ∧ decide (c ≥ 0) = (decide (a0 > b0) || (decide (a0 = b0) && decide (a1 ≥ b1))) := by
  refine ⟨(if (if a0 < b0 then (-1 : Int) else if a0 > b0 then 1 else 0) ≠ 0 then (if a0 < b0 then (-1 : Int) else if a0 > b0 then 1 else 0) else (if a1 < b1 then (-1 : Int) else if a1 > b1 then 1 else 0)), ?_, ?_⟩
  · unfold impl_bySlot.f
    simp only [cmp_f, Option.bind_some]
    exact Ev.bind (or_ev _ _) (Ev.some rfl)
  · by_cases h1 : a0 < b0
    · rw [if_pos h1, if_pos (by decide)]
      simp; omega
    · rw [if_neg h1]
      by_cases h2 : a0 > b0
      · rw [if_pos h2, if_pos (by decide)]
        simp; omega
      · rw [if_neg h2, if_neg (by simp)]
        by_cases h3 : a1 < b1
        · rw [if_pos h3]
          simp; omega
        · rw [if_neg h3]
          split <;> simp <;> omega
theorem rej_ev (l : List S90) {s m i : Nat} (hs : s ≤ 32) (hm : m ≤ 32) (hlt : i < l.length) (hn : l.length ≤ 9223372036854775807) : Ev (fun k => rejS k l (s : Int) (m : Int) (i : Int)) (!goodB l s m i) := by
  unfold rejS
  rw [atS hlt, ← getDS hlt, show wrap64 ((s : Int) - 1) = (s : Int) - 1 by rw [wrap_id] <;> omega, show wrap64 ((m : Int) - 1) = (m : Int) - 1 by rw [wrap_id] <;> omega]
  simp only [within_f, Option.bind_some, goodB]
  refine Ev.ite (fun h1 => ?_) (fun h1 => Ev.some (by rw [Bool.eq_false_iff.2 h1]; rfl))
  rw [h1]
  refine Ev.ite (fun h2 => ?_) (fun h2 => Ev.some (by rw [Bool.eq_false_iff.2 h2]; rfl))
  rw [h2]
  refine Ev.ite (fun h3 => ?_) (fun h3 => Ev.some (by rw [Bool.eq_false_iff.2 h3]; rfl))
  rw [h3]
  refine Ev.ite (fun h4 => ?_) (fun h4 => Ev.some (by rw [decide_eq_false (show ¬ 0 < i by omega)]; rfl))
  have e1 : wrap64 ((i : Int) - 1) = ((i - 1 : Nat) : Int) := by rw [wrap_id] <;> omega
  rw [e1, atS (show i - 1 < l.length by omega), ← getDS (show i - 1 < l.length by omega)]
  obtain ⟨c, hc, hd⟩ := bySlot_ev (l.getD (i - 1) z90).f0 (l.getD (i - 1) z90).f1 (l.getD (i - 1) z90).f2 (l.getD (i - 1) z90).f3 (l.getD i z90).f0 (l.getD i z90).f1 (l.getD i z90).f2 (l.getD i z90).f3
  refine Ev.bind hc (Ev.some ?_)
  rw [hd, decide_eq_true (show 0 < i by omega)]
  simp
def kvS (x : S90) : SKy × Int := (⟨x.f1, x.f2, x.f3⟩, x.f0)
def impV (l : List S90) (s m : Nat) : Nat → Nat → List (SKy × Int) → Bool
  | 0, _, T => T.all fun p => !badS T (s : Int) p
  | d + 1, i, T => goodB l s m i && (!(lkS T (kvS (l.getD i z90)).1).isSome && impV l s m d (i + 1) (kvS (l.getD i z90) :: T))
theorem sok_ev (l : List S90) {s m : Nat} (hs : s ≤ 32) (hm : m ≤ 32) (hn : l.length ≤ 9223372036854775807) : ∀ (d i : Nat) (T : List (SKy × Int)), l.length - i = d → i ≤ l.length → Ev (fun k => sokL k l (s : Int) (m : Int) T (i : Int)) (impV l s m d i T) := by
  intro d
  induction d with
  | zero =>
    intro i T hd hi
    refine Ev.succ ?_
    simp only [sokL]
    exact Ev.neg (by omega) (Ev.some rfl)
  | succ d ih =>
    intro i T hd hi
    refine Ev.succ ?_
    simp only [sokL]
    have hlt : i < l.length := by omega
    refine Ev.pos (by omega) (Ev.pos (by omega) (Ev.bind (rej_ev l hs hm hlt hn) ?_))
    rw [atS hlt, ← getDS hlt, up i hlt hn]
    simp only [impV]
    cases goodB l s m i with
    | false => exact Ev.pos rfl (Ev.some rfl)
    | true =>
      refine Ev.neg (by simp) (Ev.ite (fun h => Ev.some ?_) (fun h => ?_))
      · rw [show (lkS T (kvS (l.getD i z90)).1).isSome = true from h]
        rfl
      · rw [show (lkS T (kvS (l.getD i z90)).1).isSome = false from Bool.eq_false_iff.2 h]
        exact ih (i + 1) _ (by omega) (by omega)
theorem lkS_none {T : List (SKy × Int)} {y : SKy} : (lkS T y).isSome = false ↔ y ∉ T.map (·.1) := by
  induction T with
  | nil => simp [lkS]
  | cons p T ih =>
    simp only [lkS, List.map_cons, List.mem_cons, not_or]
    by_cases h : y = p.1
    · simp [h]
    · simp only [if_neg h, ih]
      exact ⟨fun h' => ⟨h, h'⟩, fun h' => h'.2⟩
theorem lkS_kv {T : List (SKy × Int)} (hn : (T.map (·.1)).Nodup) {p : SKy × Int} (hp : p ∈ T) : lkS T p.1 = some p.2 := by
  induction T with
  | nil => simp at hp
  | cons q T ih =>
    simp only [List.map_cons, List.nodup_cons] at hn
    simp only [lkS]
    rcases List.mem_cons.1 hp with rfl | hp
    · rw [if_pos rfl]
    · rw [if_neg (fun e => hn.1 (by rw [← e]; exact List.mem_map.2 ⟨p, hp, rfl⟩))]
      exact ih hn.2 hp
theorem nodup_rev {α : Type} {l : List α} : l.reverse.Nodup ↔ l.Nodup := by
  unfold List.Nodup
  rw [List.pairwise_reverse]
  exact ⟨fun h => h.imp Ne.symm, fun h => h.imp Ne.symm⟩
theorem impV_iff (l : List S90) (s m : Nat) : ∀ (d i : Nat) (T : List (SKy × Int)), l.length - i = d → i ≤ l.length → T = ((l.take i).map kvS).reverse → (T.map (·.1)).Nodup →
    (impV l s m d i T = true ↔ (∀ j, i ≤ j → j < l.length → goodB l s m j = true) ∧ (l.map fun x => (kvS x).1).Nodup ∧ ∀ p ∈ (l.map kvS).reverse, badS (l.map kvS).reverse (s : Int) p = false) := by
  intro d
  induction d with
  | zero =>
    intro i T hd hi hT hN
    have e : i = l.length := by omega
    subst e
    rw [List.take_length] at hT
    subst hT
    simp only [impV, List.all_eq_true, Bool.not_eq_true']
    constructor
    · intro h
      refine ⟨fun j h1 h2 => by omega, ?_, h⟩
      rw [List.map_reverse, List.map_map] at hN
      exact nodup_rev.1 hN
    · exact fun h => h.2.2
  | succ d ih =>
    intro i T hd hi hT hN
    have hlt : i < l.length := by omega
    simp only [impV, Bool.and_eq_true, Bool.not_eq_true']
    have hT' : kvS (l.getD i z90) :: T = ((l.take (i + 1)).map kvS).reverse := by
      rw [getDS hlt, List.take_succ_eq_append_getElem hlt, List.map_append, List.reverse_append, ← hT]
      rfl
    constructor
    · rintro ⟨h1, h2, h3⟩
      have hN' : ((kvS (l.getD i z90) :: T).map (·.1)).Nodup := by
        rw [List.map_cons]
        exact List.nodup_cons.2 ⟨lkS_none.1 h2, hN⟩
      obtain ⟨g1, g2⟩ := (ih (i + 1) _ (by omega) (by omega) hT' hN').1 h3
      refine ⟨fun j hj hj2 => ?_, g2⟩
      by_cases e : j = i
      · subst e; exact h1
      · exact g1 j (by omega) hj2
    · rintro ⟨h1, h2, h3⟩
      have hN' : ((kvS (l.getD i z90) :: T).map (·.1)).Nodup := by
        rw [hT', List.map_reverse, List.map_map]
        refine nodup_rev.2 (h2.sublist ?_)
        exact (List.take_sublist (i + 1) l).map _
      refine ⟨h1 i (Nat.le_refl _) hlt, ?_, (ih (i + 1) _ (by omega) (by omega) hT' hN').2 ⟨fun j hj hj2 => h1 j (by omega) hj2, h2, h3⟩⟩
      rw [List.map_cons, List.nodup_cons] at hN'
      exact lkS_none.2 hN'.1
theorem all_good {l : List S90} {s m : Nat} (h : ∀ j, 0 ≤ j → j < l.length → goodB l s m j = true) : ∀ x ∈ l.map tup, 0 ≤ x.1 ∧ (0 ≤ x.2.1 ∧ x.2.1 < (s : Int)) ∧ (0 ≤ x.2.2.1 ∧ x.2.2.1 < (m : Int)) := by
  intro x hx
  obtain ⟨y, hy, rfl⟩ := List.mem_map.1 hx
  obtain ⟨j, hj, rfl⟩ := List.mem_iff_getElem.1 hy
  have := h j (by omega) hj
  simp only [goodB, Bool.and_eq_true, decide_eq_true_eq, getDS hj] at this
  simp only [tup]
  omega
theorem prog_iff {l : List S90} {s m : Nat} (hs : s ≤ 32) (hw : ∀ x ∈ l.map tup, 0 ≤ x.1 ∧ (0 ≤ x.2.1 ∧ x.2.1 < (s : Int)) ∧ (0 ≤ x.2.2.1 ∧ x.2.2.1 < (m : Int))) :
    ((l.map fun x => (kvS x).1).Nodup ∧ ∀ p ∈ (l.map kvS).reverse, badS (l.map kvS).reverse (s : Int) p = false) ↔ Prog s m (l.map tup) := by
  have hN : (l.map fun x => (kvS x).1).Nodup ↔ ((l.map tup).map (·.2)).Nodup := by
    rw [List.map_map]
    have e : (l.map fun x => (kvS x).1) = (l.map ((fun x : Sl => x.2) ∘ tup)).map (fun y => (⟨y.1, y.2.1, y.2.2⟩ : SKy)) := by
      rw [List.map_map]; rfl
    rw [e]
    unfold List.Nodup
    rw [List.pairwise_map]
    refine ⟨fun h => h.imp (fun hne e => hne (by rw [e])), fun h => h.imp (fun {a b} hne e => hne ?_)⟩
    obtain ⟨a1, a2, a3⟩ := a
    obtain ⟨b1, b2, b3⟩ := b
    simp only [SKy.mk.injEq] at e
    rw [e.1, e.2.1, e.2.2]
  unfold Prog
  rw [hN]
  refine and_congr_right fun hn => ?_
  have hN2 : (((l.map kvS).reverse).map (·.1)).Nodup := by
    rw [List.map_reverse, List.map_map]
    exact nodup_rev.2 (hN.2 hn)
  have look : ∀ a b c, (lkS (l.map kvS).reverse ⟨a, b, c⟩).getD 0 = if (a, b, c) ∈ (l.map tup).map (·.2) then whenF (l.map tup) (a, b, c) else 0 := by
    intro a b c
    split
    · next hm =>
      obtain ⟨t, h1, h2⟩ := when_mem hm
      rw [h2]
      obtain ⟨y, hy, hy2⟩ := List.mem_map.1 h1
      have h3 : ((⟨a, b, c⟩ : SKy), t) ∈ (l.map kvS).reverse := List.mem_reverse.2 (List.mem_map.2 ⟨y, hy, by
        simp only [tup, Prod.mk.injEq] at hy2
        obtain ⟨e0, e1, e2, e3⟩ := hy2
        simp only [kvS, e0, e1, e2, e3]⟩)
      rw [lkS_kv hN2 h3]
      rfl
    · next hm =>
      have : (lkS (l.map kvS).reverse ⟨a, b, c⟩).isSome = false := lkS_none.2 fun h => hm (by
        rw [List.map_reverse, List.map_map, List.mem_reverse] at h
        obtain ⟨y, hy, hy2⟩ := List.mem_map.1 h
        refine List.mem_map.2 ⟨tup y, List.mem_map.2 ⟨y, hy, rfl⟩, ?_⟩
        simp only [Function.comp, kvS, SKy.mk.injEq] at hy2
        simp only [tup, hy2.1, hy2.2.1, hy2.2.2])
      cases hh : lkS (l.map kvS).reverse ⟨a, b, c⟩ with
      | none => rfl
      | some v => rw [hh] at this; cases this
  have one : ∀ y ∈ l, badS (l.map kvS).reverse (s : Int) (kvS y) = false ↔ ∀ a, aheadOf (s : Int) (tup y).2 = some a → (if a ∈ (l.map tup).map (·.2) then whenF (l.map tup) a else 0) < (tup y).1 := by
    intro y hy
    have hb := hw (tup y) (List.mem_map.2 ⟨y, hy, rfl⟩)
    obtain ⟨t, k, i, c⟩ := y
    simp only [tup] at hb
    have e1 : wrap64 ((s : Int) - 1) = (s : Int) - 1 := by rw [wrap_id] <;> omega
    have e2 : wrap64 (k + 1) = k + 1 := by rw [wrap_id] <;> omega
    have e3 : wrap64 (k - 1) = k - 1 := by rw [wrap_id] <;> omega
    clear hy
    show badS (l.map kvS).reverse (s : Int) (⟨k, i, c⟩, t) = false ↔ ∀ a, aheadOf (s : Int) (k, i, c) = some a → (if a ∈ (l.map tup).map (·.2) then whenF (l.map tup) a else 0) < t
    cases c with
    | false =>
      simp only [badS, aheadT, e1, e2, e3, aheadOf, Bool.false_eq_true, if_false, if_true]
      by_cases h0 : 0 < k
      · simp only [gt_iff_lt, h0, decide_true, if_true, Bool.true_and, look, decide_eq_false_iff_not, Option.some.injEq]
        exact ⟨fun h a e => by subst e; omega, fun h => by have := h _ rfl; omega⟩
      · simp [h0]
    | true =>
      simp only [badS, aheadT, e1, e2, e3, aheadOf, if_true, Bool.true_eq_false, if_false]
      by_cases h0 : k = (s : Int) - 1
      · simp only [if_pos h0, Bool.true_and, look, decide_eq_false_iff_not]
        exact ⟨fun h a e => by obtain rfl := Option.some.inj e; omega, fun h => by have := h _ rfl; omega⟩
      · simp only [if_neg h0, Bool.true_and, look, decide_eq_false_iff_not]
        exact ⟨fun h a e => by obtain rfl := Option.some.inj e; omega, fun h => by have := h _ rfl; omega⟩
  constructor
  · intro h x hx
    obtain ⟨y, hy, rfl⟩ := List.mem_map.1 hx
    exact (one y hy).1 (h _ (List.mem_reverse.2 (List.mem_map.2 ⟨y, hy, rfl⟩)))
  · intro h p hp
    obtain ⟨y, hy, rfl⟩ := List.mem_map.1 (List.mem_reverse.1 hp)
    exact (one y hy).2 (h _ (List.mem_map.2 ⟨y, hy, rfl⟩))
theorem size_f (a : Int) : spec_l19Size.f a = some (decide (1 ≤ a) && decide (a ≤ 32)) := by
  unfold spec_l19Size.f
  simp only [l5In_f, Option.bind_some]
theorem stages_f (a b : Int) : impl_stagesOk.f a b = some ((decide (1 ≤ a) && decide (a ≤ 32)) && (decide (1 ≤ b) && decide (b ≤ 32))) := by
  unfold impl_stagesOk.f
  simp only [within_f, Option.bind_some]
  split
  · next h => rw [h, Bool.true_and]
  · next h => rw [Bool.eq_false_iff.2 h, Bool.false_and]
theorem slots_both (l : List S90) (hn : l.length ≤ 1048576) (a b : Int) : ∃ v, Ev (fun k => spec_SlotsOk.f k l a b) v ∧ Ev (fun k => impl_SlotsOk.f k l a b) v ∧
    (v = true → ∃ s m : Nat, a = s ∧ b = m ∧ 1 ≤ s ∧ s ≤ 32 ∧ 1 ≤ m ∧ m ≤ 32 ∧ l.length = 2 * s * m ∧ (∀ j, 0 ≤ j → j < l.length → goodB l s m j = true) ∧ Ref s m (l.map tup)) := by
  unfold spec_SlotsOk.f impl_SlotsOk.f
  simp only [size_f, stages_f, Option.bind_some]
  have jf : Ev (fun k => spec_SlotsOk.j0 k l a b true) false := by
    refine Ev.succ ?_
    simp only [spec_SlotsOk.j0]
    exact Ev.pos trivial (Ev.some rfl)
  by_cases h1 : (decide (1 ≤ a) && decide (a ≤ 32)) = true
  · by_cases h2 : (decide (1 ≤ b) && decide (b ≤ 32)) = true
    · rw [h1, h2]
      simp only [Bool.and_eq_true, decide_eq_true_eq] at h1 h2
      obtain ⟨s, rfl⟩ : ∃ s : Nat, a = s := ⟨a.toNat, by omega⟩
      obtain ⟨m, rfl⟩ : ∃ m : Nat, b = m := ⟨b.toNat, by omega⟩
      have hsm : (s : Int) * (m : Int) ≤ 32 * 32 := Int.mul_le_mul (by omega) (by omega) (by omega) (by decide)
      have hsm0 : 0 ≤ (s : Int) * (m : Int) := Int.mul_nonneg (by omega) (by omega)
      have e1 : wrap64 (wrap64 (2 * (s : Int)) * (m : Int)) = 2 * (s : Int) * (m : Int) := by
        rw [wrap_id (n := 2 * (s : Int)) (by omega) (by omega), Int.mul_assoc, wrap_id] <;> omega
      rw [e1]
      by_cases h3 : (l.length : Int) = 2 * (s : Int) * (m : Int)
      · have h3' : l.length = 2 * s * m := by
          have : ((2 * s * m : Nat) : Int) = 2 * (s : Int) * (m : Int) := by simp
          omega
        have p1 := l0_ev l (by omega) (s := s) (m := m) (by omega) (by omega) l.length 0 (by omega) (by omega)
        have p2 := sok_ev l (s := s) (m := m) (by omega) (by omega) (by omega) l.length 0 [] (by omega) (by omega)
        have eqv : impV l s m l.length 0 [] = (allUp (goodB l s m) l.length 0 && allUp (fun k => allUp (condB (l.map tup) s k) m 0) s 0) := by
          rw [Bool.eq_iff_iff, impV_iff l s m l.length 0 [] (by omega) (by omega) (by simp) (by simp), Bool.and_eq_true, allUp_iff, ref_iff]
          constructor
          · rintro ⟨g1, g2⟩
            have hw := all_good g1
            exact ⟨fun j hj hj2 => g1 j hj (by omega), (prog_ref (by rw [List.length_map]; exact h3') hw).1 ((prog_iff (by omega) hw).1 g2)⟩
          · rintro ⟨g1, g2⟩
            have g1' : ∀ j, 0 ≤ j → j < l.length → goodB l s m j = true := fun j hj hj2 => g1 j hj (by omega)
            have hw := all_good g1'
            exact ⟨g1', (prog_iff (by omega) hw).2 ((prog_ref (by rw [List.length_map]; exact h3') hw).2 g2)⟩
        refine ⟨_, Ev.pos rfl (Ev.pos rfl (Ev.succ ?_)), Ev.pos rfl (Ev.pos h3 (Ev.pos (by omega) (eqv ▸ p2))), fun hv => ?_⟩
        · simp only [spec_SlotsOk.j0]
          refine Ev.neg (by simp [h3]) p1
        · simp only [Bool.and_eq_true] at hv
          rw [allUp_iff] at hv
          exact ⟨s, m, rfl, rfl, by omega, by omega, by omega, by omega, h3', fun j hj hj2 => hv.1 j hj (by omega), (ref_iff _ _ _).1 hv.2⟩
      · refine ⟨false, Ev.pos rfl (Ev.pos rfl ?_), Ev.pos rfl (Ev.neg h3 (Ev.some rfl)), by simp⟩
        rw [show ((l.length : Int) != 2 * (s : Int) * (m : Int)) = true from bne_iff_ne.2 h3]
        exact jf
    · rw [h1, Bool.eq_false_iff.2 h2]
      exact ⟨false, Ev.pos rfl (Ev.neg (by simp) jf), Ev.neg (by simp) (Ev.some rfl), by simp⟩
  · rw [Bool.eq_false_iff.2 h1]
    exact ⟨false, Ev.neg (by simp) jf, Ev.neg (by simp) (Ev.some rfl), by simp⟩
theorem FnExactSlotsOk (l : List S93) (a b : Int) {good : S93 → Prop} (hg : l.length ≤ maxLen ∧ ∀ y ∈ l, good y) : ∃ k, laws_FnExactSlotsOk.f k l a b = some true := by
  have hm : l.length ≤ 9223372036854775807 := hg.1
  apply Ev.rounds
  unfold laws_FnExactSlotsOk.f laws_szSlotS.f
  rw [wrap_id (by omega) (by omega)]
  by_cases h : (1048576 : Int) - (l.length : Int) < 0
  · rw [if_pos h]
    exact Ev.b rfl (Ev.pos (by omega) (Ev.some rfl))
  · rw [if_neg h]
    have t := toS_ev l (by omega)
    have hl : (l.map convS).length = l.length := List.length_map _
    refine Ev.b rfl (Ev.neg h (Ev.bind t ?_))
    obtain ⟨v, e1, e2, _⟩ := slots_both (l.map convS) (by omega) a b
    exact Ev.bind e1 (Ev.bind t (Ev.bind e2 (Ev.neg (by simp) (Ev.bind t (Ev.bind (eqS_ev _ (by omega)) (Ev.pos rfl (Ev.some rfl)))))))
end Go.Proofs.Ytajknaobbjlljaa.PureFnExactSlotsOk
