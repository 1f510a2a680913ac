/- What an argument that came in reads as, in the words of the printed contracts: one law a kind, for whatever program. -/
import Derived.Deep.Slices
import Derived.Test.YtpoblnigmfbnfacWMore
namespace Go.Proofs.Ytpoblnigmfbnfac.Open
open Go.ChangeShapes Go.WideShapes Go.RowKit Go.Deep Go.Proofs.YtpoblnigmfbnfacW.PrintWords
/-- Whatever is read at type t is of the kind d, and good. -/
def Opens {α : Type} (P : Program) (t : TypeId) (d : Kd α) (good : α → Prop) : Prop :=
  ∀ (H : Type) (enc : TypeId × Value → H) (w : World) (spare : Nat → Bool) (held : Bool) (fuel : Nat) (cs : List Value) (x : DataW H × List MemPlace),
    DataW.trod enc P w 0 spare held fuel t cs = some x → ∃ y, d.K w y cs ∧ good y
/-- .. a row of fields, from cell number off on. -/
def OpensF {α : Type} (P : Program) (fs : List Field) (off : Nat) (d : Kd α) (good : α → Prop) : Prop :=
  ∀ (H : Type) (enc : TypeId × Value → H) (w : World) (spare : Nat → Bool) (held : Bool) (fuel : Nat) (cs : List Value) (xs : List (DataW H × List MemPlace)), cs.length = off + d.sz →
    (fs.mapM fun f => DataW.trod enc P w 0 spare held fuel f.type ((cs.drop f.offset).take (P.cellsOf f.type))) = some xs → ∃ y, d.K w y (cs.drop off) ∧ good y
variable {P : Program} {t : TypeId}
theorem opens_int {k : IntKind} (ht : P.underlying t = some (.int k)) : Opens P t (Kd.int k) (fun n => (Lit.int k n).wf = true) := by
  intro H enc w spare held fuel cs x h
  obtain ⟨n, rfl, _, hw⟩ := DataW.trod_int ht h
  exact ⟨n, rfl, hw⟩
theorem opens_bool (ht : P.underlying t = some .bool) : Opens P t Kd.bool (fun _ => True) := by
  intro H enc w spare held fuel cs x h
  obtain ⟨b, rfl, _⟩ := DataW.trod_bool ht h
  exact ⟨b, rfl, trivial⟩
theorem opens_string (ht : P.underlying t = some .string) : Opens P t Kd.string (fun s => s.size ≤ maxLen) := by
  intro H enc w spare held fuel cs x h
  obtain ⟨s, rfl, _, hs⟩ := DataW.trod_string ht h
  exact ⟨s, rfl, hs⟩
theorem gathered {α : Type} {p : Nat → α → Prop} {n : Nat} (h : ∀ i, i < n → ∃ y, p i y) : ∃ ys : List α, ys.length = n ∧ ∀ i y, ys[i]? = some y → p i y := by
  induction n with
  | zero => exact ⟨[], rfl, fun i y hy => by simp at hy⟩
  | succ n ih =>
    obtain ⟨ys, hl, hy⟩ := ih (fun i hi => h i (by omega))
    obtain ⟨y, h1⟩ := h n (by omega)
    refine ⟨ys ++ [y], by simp [hl], fun i z hz => ?_⟩
    by_cases hi : i < ys.length
    · rw [List.getElem?_append_left hi] at hz
      exact hy i z hz
    · rw [List.getElem?_append_right (by omega)] at hz
      have hi0 : i - ys.length = 0 := by
        by_cases e0 : i - ys.length = 0
        · exact e0
        · obtain ⟨q, hq⟩ : ∃ q, i - ys.length = q + 1 := ⟨i - ys.length - 1, by omega⟩
          rw [hq] at hz
          simp at hz
      rw [hi0] at hz
      have hz' : y = z := by simpa using hz
      subst hz'
      rw [show i = n by omega]
      exact h1
theorem opens_slice {α : Type} {e : TypeId} {d : Kd α} {good : α → Prop} (ht : P.underlying t = some (.slice e)) (hc : P.cellsOf e = d.sz) (he : Opens P e d good) :
    Opens P t (Kd.slice e d) (fun ys => ys.length ≤ maxLen ∧ ∀ y ∈ ys, good y) := by
  intro H enc w spare held fuel cs x h
  rcases open_slice ht h with ⟨rfl, _⟩ | ⟨a, len, cap, m, n, D, Pl, rfl, _, hl, hm, hmm, _, hx⟩
  · exact ⟨[], ⟨none, 0, rfl, Nat.le_refl _, rfl, by simp, fun hp => absurd hp (Nat.lt_irrefl _)⟩, by simp, by simp⟩
  have hlm : len ≤ m := by
    rw [hmm]
    split <;> omega
  have hch : ∀ i, i < len → ∃ y, good y ∧ ∃ c, w.cells? 0 (a.add (i * P.cellsOf e)) (P.cellsOf e) = some c ∧ d.K w y c := by
    intro i hi
    obtain ⟨c, h1, h2⟩ := hx i (by omega)
    obtain ⟨y, hy, hg⟩ := he H enc w spare held n c _ h2
    exact ⟨y, hg, c, h1, hy⟩
  have hY := gathered hch
  obtain ⟨ys, hlen, hy⟩ := hY
  have hmax : maxLen = 9223372036854775807 := by decide
  refine ⟨ys, ⟨some a, cap, by rw [hlen], by omega, rfl, by omega, fun _ => ⟨a, rfl, fun j p hp => ?_⟩⟩, by omega, fun y hm => ?_⟩
  · obtain ⟨_, c, h1, h2⟩ := hy j p hp
    obtain ⟨_, hcl, hcell⟩ := World.cells?_some h1
    refine ⟨c, by rw [hcl, hc], h2, fun i u hu => ?_⟩
    have hi : i < c.length := (List.getElem?_eq_some_iff.1 hu).1
    have := hcell i (by omega)
    rw [Go.Deep.add_add, hc, hu] at this
    exact this
  · obtain ⟨j, hj, rfl⟩ := List.getElem_of_mem hm
    exact (hy j _ (List.getElem?_eq_getElem hj)).1
theorem opensF_one {α : Type} {f : Field} {off : Nat} {d : Kd α} {good : α → Prop} (ho : f.offset = off) (hc : P.cellsOf f.type = d.sz) (h : Opens P f.type d good) : OpensF P [f] off d good := by
  intro H enc w spare held fuel cs xs hl hx
  simp only [List.mapM_cons, List.mapM_nil, Option.pure_def, Option.bind_eq_bind, Option.bind_eq_some_iff] at hx
  obtain ⟨x, hx, _⟩ := hx
  rw [ho, hc, List.take_of_length_le (by rw [List.length_drop]; omega)] at hx
  exact h H enc w spare held fuel _ x hx
theorem opensF_cons {α β : Type} {f : Field} {fs : List Field} {off : Nat} {d : Kd α} {d' : Kd β} {good : α → Prop} {good' : β → Prop} (ho : f.offset = off) (hc : P.cellsOf f.type = d.sz) (h : Opens P f.type d good) (hs : OpensF P fs (off + d.sz) d' good') :
    OpensF P (f :: fs) off (Kd.pair d d') (fun y => good y.1 ∧ good' y.2) := by
  intro H enc w spare held fuel cs xs hl hx
  simp only [List.mapM_cons, Option.pure_def, Option.bind_eq_bind, Option.bind_eq_some_iff] at hx
  obtain ⟨x, hx, xs', hxs, _⟩ := hx
  have hl' : cs.length = off + (d.sz + d'.sz) := hl
  rw [ho, hc] at hx
  obtain ⟨y, hy, hg⟩ := h H enc w spare held fuel _ x hx
  obtain ⟨y', hy', hg'⟩ := hs H enc w spare held fuel cs xs' (by omega) hxs
  refine ⟨(y, y'), ⟨_, _, ?_, hy, hy'⟩, hg, hg'⟩
  rw [← List.drop_drop, List.take_append_drop]
theorem opens_struct {α β : Type} {fs : Array Field} {d : Kd α} {good : α → Prop} (ht : P.underlying t = some (.struct fs)) (hc : P.cellsOf t = d.sz) (hs : OpensF P fs.toList 0 d good) (f : β → α) (g : α → β) (hfg : ∀ a, f (g a) = a) :
    Opens P t (Kd.iso d f) (fun y => good (f y)) := by
  intro H enc w spare held fuel cs x h
  cases fuel with
  | zero => simp [DataW.trod] at h
  | succ fuel =>
    unfold DataW.trod at h
    rw [ht] at h
    simp only at h
    split at h
    · next hl =>
      obtain ⟨xs, hxs, _⟩ := Option.map_eq_some_iff.1 h
      obtain ⟨y, hy, hg⟩ := hs H enc w spare held fuel cs xs (by omega) hxs
      refine ⟨g y, ?_, ?_⟩
      · show d.K w (f (g y)) cs
        rw [hfg]
        exact hy
      · show good (f (g y))
        rw [hfg]
        exact hg
    · cases h
theorem opens_struct0 {α : Type} {fs : Array Field} {d : Kd α} {good : α → Prop} (ht : P.underlying t = some (.struct fs)) (hc : P.cellsOf t = d.sz) (hs : OpensF P fs.toList 0 d good) : Opens P t d good :=
  opens_struct ht hc hs id id (fun _ => rfl)
theorem Opens.mono {α : Type} {d : Kd α} {good good' : α → Prop} (h : Opens P t d good) (hg : ∀ y, good y → good' y) : Opens P t d good' := by
  intro H enc w spare held fuel cs x hx
  obtain ⟨y, hy, g⟩ := h H enc w spare held fuel cs x hx
  exact ⟨y, hy, hg y g⟩
end Go.Proofs.Ytpoblnigmfbnfac.Open
