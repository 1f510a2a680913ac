-- Printed out of the translation, hand-written contracts beside it; checked by the kernel alone.
import Derived.Test.YtpoblnigmfbnfacPFnExactSlotCostx0
import Derived.Test.YtpoblnigmfbnfacPFnExactSlotCostx3
import Derived.Test.YtpoblnigmfbnfacPFnExactSlotCostx4
namespace Go.Proofs.Ytpoblnigmfbnfac.PFnExactSlotCost
open Go.RowKit Go.Proofs.YtpoblnigmfbnfacW.PrintWords Go.Proofs.YtpoblnigmfbnfacW.PrintLast Go.Proofs.YtpoblnigmfbnfacW.PrintMore
attribute [local go_sem] max2_int min2_int max_two min_two max_three min_three max_four min_four   -- for this text's walks alone
set_option linter.unusedVariables false
set_option linter.unusedSimpArgs false

/-! ### impl_SlotsOk: function 69 -/
/-! the key: a struct of two whole numbers and a bool -/
structure SKy where
  a : Int
  b : Int
  c : Bool
instance : DecidableEq SKy := fun x y => decidable_of_iff (x.a = y.a ∧ x.b = y.b ∧ x.c = y.c) ⟨fun ⟨h1, h2, h3⟩ => by cases x; cases y; simp at h1 h2 h3; rw [h1, h2, h3], fun h => by rw [h]; exact ⟨rfl, rfl, rfl⟩⟩
def lkS : List (SKy × Int) → SKy → Option Int
  | [], _ => none
  | p :: T, y => if y = p.1 then some p.2 else lkS T y
def aheadT (a0 a1 : Int) (a2 : Bool) (s : Int) : Int × Int × Bool × Bool := if a2 = true then (if a0 = wrap64 (s - 1) then (a0, a1, false, true) else (wrap64 (a0 + 1), a1, true, true)) else (wrap64 (a0 - 1), a1, false, decide (a0 > 0))
def badS (T : List (SKy × Int)) (s : Int) (p : SKy × Int) : Bool := (aheadT p.1.a p.1.b p.1.c s).2.2.2 && decide ((lkS T ⟨(aheadT p.1.a p.1.b p.1.c s).1, (aheadT p.1.a p.1.b p.1.c s).2.1, (aheadT p.1.a p.1.b p.1.c s).2.2.1⟩).getD 0 ≥ p.2)
def rejS (k : Nat) (l : List S82) (s m i : Int) : Option Bool := (impl_within.f (rd_T82 l i).f0 0 10000).bind fun b1 => if b1 = true then ((impl_within.f (rd_T82 l i).f1 0 (wrap64 (s - 1))).bind fun b2 => if b2 = true then ((impl_within.f (rd_T82 l i).f2 0 (wrap64 (m - 1))).bind fun b3 => if b3 = true then (if i > 0 then ((impl_bySlot.f k (rd_T82 l (wrap64 (i - 1))).f0 (rd_T82 l (wrap64 (i - 1))).f1 (rd_T82 l (wrap64 (i - 1))).f2 (rd_T82 l (wrap64 (i - 1))).f3 (rd_T82 l i).f0 (rd_T82 l i).f1 (rd_T82 l i).f2 (rd_T82 l i).f3).bind fun c => some (decide (c ≥ 0))) else some false) else some true) else some true) else some true
def sokL : Nat → List S82 → Int → Int → List (SKy × Int) → Int → Option Bool
  | 0, _, _, _, _, _ => none
  | k + 1, l, s, m, T, i => if i < (l.length : Int) then (if 0 ≤ i then ((rejS k l s m i).bind fun b => if b = true then some false else (if (lkS T ⟨(rd_T82 l i).f1, (rd_T82 l i).f2, (rd_T82 l i).f3⟩).isSome = true then some false else sokL k l s m ((⟨(rd_T82 l i).f1, (rd_T82 l i).f2, (rd_T82 l i).f3⟩, (rd_T82 l i).f0) :: T) (wrap64 (i + 1)))) else none) else some (T.all fun p => !badS T s p)
theorem rejS_mono (k : Nat) (l : List S82) (s m i : Int) : LeO (rejS k l s m i) (rejS (k + 1) l s m i) := by
  unfold rejS
  repeat' first
    | (with_reducible exact impl_bySlot.mono _ _ _ _ _ _ _ _ _)
    | (with_reducible exact LeO.refl _)
    | (with_reducible exact LeO.none _)
    | (with_reducible refine LeO.ite ?_ ?_)
    | (with_reducible refine LeO.bind ?_ (fun _ => ?_))
theorem sokL_mono : ∀ k, (∀ y0 y1 y2 y3 y4, LeO (sokL k y0 y1 y2 y3 y4) (sokL (k + 1) y0 y1 y2 y3 y4))
  | 0 => fun _ _ _ _ _ r h => by simp [sokL] at h
  | k + 1 => by
    have ih0 := sokL_mono k
    intro y0 y1 y2 y3 y4
    unfold sokL
    repeat' first
    | (with_reducible exact ih0 _ _ _ _ _)
    | (with_reducible exact rejS_mono _ _ _ _ _)
    | (with_reducible exact LeO.refl _)
    | (with_reducible exact LeO.none _)
    | (with_reducible refine LeO.ite ?_ ?_)
    | (with_reducible refine LeO.bind ?_ (fun _ => ?_))
def impl_SlotsOk.f (k : Nat) (l0 : List S82) (a1 : Int) (a2 : Int) : Option Bool := (impl_stagesOk.f a1 a2).bind fun t => if t = true then (if (l0.length : Int) = wrap64 (wrap64 (2 * a1) * a2) then (if l0.length ≤ 35184372088832 then sokL k l0 a1 a2 [] 0 else none) else some false) else some false
theorem impl_SlotsOk.mono : ∀ a0 a1 a2 k, LeO (impl_SlotsOk.f k a0 a1 a2) (impl_SlotsOk.f (k + 1) a0 a1 a2) := by
  intro a0 a1 a2 k
  unfold impl_SlotsOk.f
  repeat' first
      | (with_reducible exact sokL_mono _ _ _ _ _ _)
      | (with_reducible exact LeO.refl _)
      | (with_reducible exact LeO.none _)
      | (with_reducible refine LeO.ite ?_ ?_)
      | (with_reducible refine LeO.bind ?_ (fun _ => ?_))

section
open Go.Maps
/-- Block b is a map of at most n entries that holds, at the key that 'enc x' spells, what 'f x' tells. -/
def OMap {κ : Type} (P : Program) (K E : TypeId) (enc : κ → Value) (w : World) (b n : Nat) (f : κ → Option Int) : Prop :=
  ∃ D : DataW Unit, w.ownsMap P K (plainElem P E) b n D ∧ ∀ x kl, keyOf P K (enc x) = some kl → Maps.has D kl = (f x).isSome ∧ ∀ c, f x = some c → ∀ z, D.atKey kl z = .lit (.int .i64 c)
def updF {κ : Type} [DecidableEq κ] (f : κ → Option Int) (x : κ) (c : Int) : κ → Option Int := fun y => if y = x then some c else f y
variable {κ : Type} {P : Program} {K E T : TypeId} {enc : κ → Value} {w : World} {b n : Nat} {f : κ → Option Int}
theorem OMap.made (w : World) : OMap P K E enc (w.alloc (.map #[] 0)) w.heap.size 0 (fun _ => none) :=
  ⟨_, World.ownsMap_made w P K (plainElem P E), fun x kl _ => ⟨rfl, fun c h => by cases h⟩⟩
theorem OMap.kept {w' : World} {row : Option Nat} (h : OMap P K E enc w b n f) (hg : w.grownBy w' row) (hne : some b ≠ row) : OMap P K E enc w' b n f := by
  obtain ⟨D, h1, h2⟩ := h
  exact ⟨D, h1.kept hg hne, h2⟩
theorem OMap.block {w' : World} (h : OMap P K E enc w b n f) (hb : w'.heap[b]? = w.heap[b]?) : OMap P K E enc w' b n f := by
  obtain ⟨D, ⟨es, cl, h0, h1⟩, h2⟩ := h
  exact ⟨D, ⟨es, cl, hb.trans h0, h1⟩, h2⟩
theorem OMap.lt (h : OMap P K E enc w b n f) : b < w.heap.size := by
  obtain ⟨D, h1, h2⟩ := h
  exact h1.lt
theorem OMap.mono {n' : Nat} (h : OMap P K E enc w b n f) (hn : n ≤ n') : OMap P K E enc w b n' f := by
  obtain ⟨D, h1, h2⟩ := h
  exact ⟨D, h1.mono hn, h2⟩
theorem OMap.look (h : OMap P K E enc w b n f) (L : Keyed P K) (ht : P.underlying T = some (.map K E)) (he : P.underlying E = some (.int .i64)) (hz : ∀ w : World, (zeroValue E).run P w = .ok (.int .i64 0) w) {x : κ} {kl : Lit} (hk : keyOf P K (enc x) = some kl) :
    (Instr.lookup T (.map (some b)) (enc x) false).run P w = .ok (.int .i64 ((f x).getD 0)) w := by
  obtain ⟨D, h1, h2⟩ := h
  obtain ⟨c, hr, hc, hw⟩ := h1.lookup_int L ht he (hz w) hk
  obtain ⟨h3, h4⟩ := h2 x kl hk
  rw [hr]
  cases hx : f x with
  | none =>
    rw [hx] at h3
    rw [atKey_of_not_has (by simpa using h3)] at hc
    cases hc
    rfl
  | some d =>
    rw [h4 d hx] at hc
    cases hc
    rfl
theorem OMap.lookOk (h : OMap P K E enc w b n f) (L : Keyed P K) (ht : P.underlying T = some (.map K E)) (he : P.underlying E = some (.int .i64)) (hz : ∀ w : World, (zeroValue E).run P w = .ok (.int .i64 0) w) {x : κ} {kl : Lit} (hk : keyOf P K (enc x) = some kl) :
    (Instr.lookup T (.map (some b)) (enc x) true).run P w = .ok (.tuple #[.int .i64 ((f x).getD 0), .bool (f x).isSome]) w := by
  obtain ⟨D, h1, h2⟩ := h
  obtain ⟨v, ps, hr, hv⟩ := h1.look_ok L ht (hz w) (plainElem_int he (a := 0) (by decide)) hk
  obtain ⟨h3, h4⟩ := h2 x kl hk
  obtain ⟨c, rfl, hc, hw⟩ := plainElem_int_inv he hv
  rw [hr, h3]
  cases hx : f x with
  | none =>
    rw [hx] at h3
    rw [atKey_of_not_has (by simpa using h3)] at hc
    cases hc
    rfl
  | some d =>
    rw [h4 d hx] at hc
    cases hc
    rfl
theorem OMap.put [DecidableEq κ] {w' : World} {D : DataW Unit} (h2 : ∀ x kl, keyOf P K (enc x) = some kl → Maps.has D kl = (f x).isSome ∧ ∀ c, f x = some c → ∀ z, D.atKey kl z = .lit (.int .i64 c)) (hD : IsMap D) (L : Keyed P K) (hi : ∀ x y, enc x = enc y → x = y) {x : κ} {kl : Lit} (hk : keyOf P K (enc x) = some kl) {c : Int}
    (h1 : w'.ownsMap P K (plainElem P E) b n (D.put kl (.lit (.int .i64 c)))) : OMap P K E enc w' b n (updF f x c) := by
  refine ⟨_, h1, fun y kl' hy => ?_⟩
  by_cases e : y = x
  · subst e
    rw [hk] at hy
    cases hy
    refine ⟨by rw [has_put_same hD (L.key hk)]; simp [updF], fun d hd z => ?_⟩
    rw [atKey_put_same hD (L.key hk)]
    simp [updF] at hd
    rw [hd]
  · have hne : kl' ≠ kl := fun e1 => e (hi _ _ (L.inj (e1 ▸ hy) hk))
    rw [has_put_other hne]
    refine ⟨by simp only [updF, if_neg e]; exact (h2 y kl' hy).1, fun d hd z => ?_⟩
    rw [atKey_put_other hne]
    simp only [updF, if_neg e] at hd
    exact (h2 y kl' hy).2 d hd z
theorem OMap.store [DecidableEq κ] (h : OMap P K E enc w b n f) (L : Keyed P K) (hi : ∀ x y, enc x = enc y → x = y) (ht : P.underlying T = some (.map K E)) (he : P.underlying E = some (.int .i64)) (hn : n < maxLen) {x : κ} {kl : Lit} (hk : keyOf P K (enc x) = some kl) {c : Int} (hc : (Lit.int .i64 c).wf = true) :
    ∃ w', (Instr.mapUpdate T (.map (some b)) (enc x) (.int .i64 c)).run P w = .ok () w' ∧ OMap P K E enc w' b (n + 1) (updF f x c) ∧ w.grownBy w' (some b) := by
  obtain ⟨D, h1, h2⟩ := h
  obtain ⟨w', hr, ho, hg⟩ := h1.update L ht hn hk (plainElem_int he hc)
  exact ⟨w', hr, OMap.put h2 h1.isMap L hi hk ho, hg⟩
end
section
open Go.Maps
variable {κ : Type} {P : Program} {K E T : TypeId} {enc : κ → Value} {w : World} {b n : Nat} {f : κ → Option Int}
theorem wpList_lookup_omap {ops : Array Oper} {rest : List Oper} {o : Oper} {a : Act} {Q : Exit → Act → World → Prop} (hg : o.guard = none) (m x : Operand) (hop : o.op = Op.lookup T m x false) (L : Keyed P K) (ht : P.underlying T = some (.map K E)) (he : P.underlying E = some (.int .i64)) (hz : ∀ w : World, (zeroValue E).run P w = .ok (.int .i64 0) w)
    (hm : a.eval m = .map (some b)) (h : OMap P K E enc w b n f) (y : κ) (hx : a.eval x = enc y) {kl : Lit} (hk : keyOf P K (enc y) = some kl)
    (hK : wpList P ops Q rest (a.put o.dst (.int .i64 ((f y).getD 0))) w) : wpList P ops Q (o :: rest) a w := by
  refine wpList_plain hg fun K' hK' => ?_
  unfold Oper.wp
  simp [execOp, hop, hm, hx, h.look L ht he hz hk, Result.andThen]
  exact hK' _ _ hK
theorem wpList_lookup_omap_ok {ops : Array Oper} {rest : List Oper} {o : Oper} {a : Act} {Q : Exit → Act → World → Prop} (hg : o.guard = none) (m x : Operand) (hop : o.op = Op.lookup T m x true) (L : Keyed P K) (ht : P.underlying T = some (.map K E)) (he : P.underlying E = some (.int .i64)) (hz : ∀ w : World, (zeroValue E).run P w = .ok (.int .i64 0) w)
    (hm : a.eval m = .map (some b)) (h : OMap P K E enc w b n f) (y : κ) (hx : a.eval x = enc y) {kl : Lit} (hk : keyOf P K (enc y) = some kl)
    (hK : wpList P ops Q rest (a.put o.dst (.tuple #[.int .i64 ((f y).getD 0), .bool (f y).isSome])) w) : wpList P ops Q (o :: rest) a w := by
  refine wpList_plain hg fun K' hK' => ?_
  unfold Oper.wp
  simp [execOp, hop, hm, hx, h.lookOk L ht he hz hk, Result.andThen]
  exact hK' _ _ hK
end
section
set_option maxRecDepth 100000
open Go.Maps
def skV (x : SKy) : Value := .agg #[.int .i64 x.a, .int .i64 x.b, .bool x.c]
theorem skV_inj (x y : SKy) (h : skV x = skV y) : x = y := by
  obtain ⟨a, b, c⟩ := x
  obtain ⟨a', b', c'⟩ := y
  simp [skV] at h
  obtain ⟨rfl, rfl, rfl⟩ := h
  rfl
theorem sk_laid : laidOutB Try.prog = true := by kernel_rfl
theorem sk_row : (112 : TypeId) < Try.prog.types.size := of_decide_eq_true (by kernel_rfl)
theorem sk_wide : (match Try.prog.underlying 112 with | some (.array _ _) | some (.struct _) => true | _ => false) = true := by rw [Try.underlying112]
theorem sk_kt : Try.prog.keyType 112 = true := by kernel_rfl
theorem sk_law : Keyed Try.prog 112 := Keyed.of_law (deep_law_laid sk_laid (m := 2) (by omega) sk_row (by kernel_rfl) sk_wide)
theorem sk_cells : Try.prog.cellsOf 112 = 3 := by kernel_rfl
theorem sk_cells3 : Try.prog.cellsOf 3 = 1 := by kernel_rfl
theorem sk_cells4 : Try.prog.cellsOf 4 = 1 := by kernel_rfl
theorem sk_size : ∃ n, Try.prog.types.size + 1 = n + 2 := ⟨Try.prog.types.size - 1, by have h : 0 < Try.prog.types.size := Nat.lt_of_le_of_lt (Nat.zero_le _) sk_row; omega⟩
theorem sk_zero (w : World) : (zeroValue 3).run Try.prog w = .ok (.int .i64 0) w := by kernel_rfl
theorem sk_key (x : SKy) (h1 : (Lit.int .i64 x.a).wf = true) (h2 : (Lit.int .i64 x.b).wf = true) : ∃ kl, keyOf Try.prog 112 (skV x) = some kl := by
  obtain ⟨n, hn⟩ := sk_size
  unfold keyOf
  simp only [Try.underlying112]
  rw [if_pos (by simp [sk_kt, skV, Value.formed, Try.underlying112, sk_cells]), hn]
  unfold Program.keyLits
  simp only [Try.underlying112, skV, Value.cells]
  rw [if_pos (by rw [sk_cells]; exact ⟨rfl, by kernel_rfl⟩)]
  simp [sk_cells3, sk_cells4, Program.keyLits, Try.underlying3, Try.underlying4, h1, h2]
theorem sk_inv {v : Value} {kl : Lit} (h : keyOf Try.prog 112 v = some kl) : ∃ x : SKy, v = skV x ∧ (Lit.int .i64 x.a).wf = true ∧ (Lit.int .i64 x.b).wf = true := by
  obtain ⟨n, hn⟩ := sk_size
  unfold keyOf at h
  simp only [Try.underlying112] at h
  split at h
  · next hc =>
    rw [hn] at h
    simp only [Bool.and_eq_true] at hc
    have hf := hc.2
    unfold Value.formed at hf
    split at hf
    · next cs =>
      rw [Try.underlying112] at hf
      simp only [beq_iff_eq, sk_cells] at hf
      obtain ⟨l⟩ := cs
      match l, hf with
      | [a, b, c], _ =>
        unfold Program.keyLits at h
        simp only [Try.underlying112, Value.cells] at h
        rw [if_pos (by rw [sk_cells]; exact ⟨rfl, by kernel_rfl⟩)] at h
        simp [sk_cells3, sk_cells4] at h
        cases hl1 : Try.prog.keyLits (n + 1) 3 [a] with
        | none => simp [hl1] at h
        | some l1 =>
        cases hl2 : Try.prog.keyLits (n + 1) 3 [b] with
        | none => simp [hl1, hl2] at h
        | some l2 =>
        cases hl3 : Try.prog.keyLits (n + 1) 4 [c] with
        | none => simp [hl1, hl2, hl3] at h
        | some l3 =>
        unfold Program.keyLits at hl1 hl2 hl3
        rw [Try.underlying3] at hl1 hl2
        rw [Try.underlying4] at hl3
        cases a <;> simp at hl1
        cases b <;> simp at hl2
        cases c <;> simp at hl3
        obtain ⟨⟨rfl, w1⟩, _⟩ := hl1
        obtain ⟨⟨rfl, w2⟩, _⟩ := hl2
        exact ⟨⟨_, _, _⟩, rfl, w1, w2⟩
    · cases hf
    · rw [Try.underlying112] at hf
      simp at hf
  · cases h
end
section
open Go.Maps
def ORng {κ : Type} (P : Program) (K E : TypeId) (enc : κ → Value) (w : World) (b r n : Nat) (f : κ → Option Int) (left : κ → Prop) : Prop :=
  ∃ (D : DataW Unit) (lf : Lit → Bool) (cnt : Nat), w.ranges P K (plainElem P E) b r n D lf cnt ∧ (∀ x kl, keyOf P K (enc x) = some kl → Maps.has D kl = (f x).isSome ∧ ∀ c, f x = some c → ∀ z, D.atKey kl z = .lit (.int .i64 c)) ∧ ∀ x kl, keyOf P K (enc x) = some kl → (left x ↔ lf kl = true)
variable {κ : Type} {P : Program} {K E T : TypeId} {enc : κ → Value} {w : World} {b r n : Nat} {f : κ → Option Int} {left : κ → Prop}
theorem ORng.owns (h : ORng P K E enc w b r n f left) : OMap P K E enc w b n f := by
  obtain ⟨D, lf, cnt, h1, h2, h3⟩ := h
  exact ⟨D, h1.owns, h2⟩
theorem ORng.kept {w' : World} {row : Option Nat} (h : ORng P K E enc w b r n f left) (hg : w.grownBy w' row) (hb : some b ≠ row) (hr : some r ≠ row) : ORng P K E enc w' b r n f left := by
  obtain ⟨D, lf, cnt, h1, h2, h3⟩ := h
  exact ⟨D, lf, cnt, h1.kept hg hb hr, h2, h3⟩
theorem ORng.block {w' : World} (h : ORng P K E enc w b r n f left) (hb : w'.heap[b]? = w.heap[b]?) (hr : w'.heap[r]? = w.heap[r]?) : ORng P K E enc w' b r n f left ∧ w'.rangeLeft b r = w.rangeLeft b r := by
  obtain ⟨D, lf, cnt, ⟨es, cl, si, se, c0, h0, a1, a2, a3, h1, a4⟩, h2, h3⟩ := h
  refine ⟨⟨D, lf, cnt, ⟨es, cl, si, se, c0, hb.trans h0, a1, a2, a3, hr.trans h1, a4⟩, h2, h3⟩, ?_⟩
  unfold World.rangeLeft
  rw [hb, hr]
theorem ORng.far {w' : World} (h : ORng P K E enc w b r n f left) (hbr : b < r) (hk : ∀ g, g ≤ r → w'.heap[g]? = w.heap[g]?) : ORng P K E enc w' b r n f left ∧ w'.rangeLeft b r = w.rangeLeft b r :=
  h.block (hk b (Nat.le_of_lt hbr)) (hk r (Nat.le_refl _))
theorem wpList_range_omap {ops : Array Oper} {rest : List Oper} {o : Oper} {a : Act} {Q : Exit → Act → World → Prop} (hg : o.guard = none) (m : Operand) (hop : o.op = Op.range T m) (L : Keyed P K) (ht : P.underlying T = some (.map K E)) (hm : a.eval m = .map (some b)) (h : OMap P K E enc w b n f)
    (hK : ∀ w', ORng P K E enc w' b w.heap.size n f (fun x => (f x).isSome = true) → w.grownBy w' none → w'.heap.size = w.heap.size + 1 → wpList P ops Q rest (a.put o.dst (.pointer (some ⟨w.heap.size, 0, none⟩))) w') :
    wpList P ops Q (o :: rest) a w := by
  obtain ⟨D, h1, h2⟩ := h
  refine wpList_range_own w hg m T hop K E L ht (plainElem P E) b n D hm h1 (fun w' hr hg' hs => hK w' ⟨D, _, _, hr, h2, fun x kl hk => ?_⟩ hg' hs)
  rw [(h2 x kl hk).1]
theorem wpList_next_omap {ops : Array Oper} {rest : List Oper} {o : Oper} {a : Act} {Q : Exit → Act → World → Prop} (hg : o.guard = none) (it : Operand) (hop : o.op = Op.next it false) (L : Keyed P K) (he : P.underlying E = some (.int .i64)) (ok : κ → Prop)
    (inv : ∀ v kl, keyOf P K v = some kl → ∃ x, v = enc x ∧ ok x) (mk : ∀ x, ok x → ∃ kl, keyOf P K (enc x) = some kl) (hi : ∀ x y, enc x = enc y → x = y)
    (hit : a.eval it = .pointer (some ⟨r, 0, none⟩)) (h : ORng P K E enc w b r n f left)
    (hDone : (∀ x, ok x → ¬ left x) → wpList P ops Q rest (a.put o.dst (.tuple #[.bool false])) w)
    (hMore : ∀ (x : κ) (c : Int) (w' : World), ok x → left x → f x = some c → ORng P K E enc w' b r n f (fun y => left y ∧ y ≠ x) → w'.rangeLeft b r < w.rangeLeft b r → w.grownBy w' (some r) → w'.heap.size = w.heap.size →
      (Instr.entry (.pointer (some ⟨r, 0, none⟩))).run P w' = .ok (.tuple #[enc x, .int .i64 c]) w' → wpList P ops Q rest (a.put o.dst (.tuple #[.bool true, enc x, .int .i64 c])) w') :
    wpList P ops Q (o :: rest) a w := by
  obtain ⟨D, lf, cnt, h1, h2, h3⟩ := h
  refine wpList_next_ranges w hg it hop K L (plainElem P E) enc (Value.int .i64) (fun key kl hk => by obtain ⟨x, e, _⟩ := inv key kl hk; exact ⟨x, e⟩) (fun v y hv => by obtain ⟨c, rfl, _⟩ := plainElem_int_inv he hv; exact ⟨c, rfl⟩) b r n D lf cnt hit h1 (fun _ hl => hDone fun x hx hlx => ?_) (fun x c kl y w' cnt' hkey hlk hv hat hrg hlt hgr hsz hen => ?_)
  · obtain ⟨kl, hk⟩ := mk x hx
    have := (h3 x kl hk).1 hlx
    rw [hl kl] at this
    cases this
  · obtain ⟨x', ex, hx'⟩ := inv _ _ hkey
    have := hi _ _ ex
    subst this
    obtain ⟨c', ec, hy, _⟩ := plainElem_int_inv he hv
    cases ec
    have hhas : Maps.has D kl = true := has_true_of_atKey (y := y.1) hat
    obtain ⟨h4, h5⟩ := h2 x kl hkey
    rw [hhas] at h4
    have hfx : f x = some c := by
      cases hf : f x with
      | none => rw [hf] at h4; cases h4
      | some d =>
        have h6 := h5 d hf (.lit (.int .i64 0))
        rw [hat, hy] at h6
        cases h6
        rfl
    refine hMore x c w' hx' ((h3 x kl hkey).2 hlk) hfx ⟨D, _, _, hrg, h2, fun z kz hz => ?_⟩ (by rw [hrg.left_eq, h1.left_eq]; exact hlt) hgr hsz hen
    show (left z ∧ z ≠ x) ↔ _
    rw [h3 z kz hz]
    simp only [Bool.and_eq_true, Bool.not_eq_true', ne_eq]
    refine and_congr_right fun _ => ⟨fun hne => ?_, fun hf => ?_⟩
    · exact sameKey_ne fun e => hne (hi _ _ (L.inj (e ▸ hz) hkey))
    · intro e
      subst e
      have hkk : kz = kl := Option.some.inj (hz.symm.trans hkey)
      rw [hkk] at hf
      have h7 := L.key hkey
      revert h7 hf
      cases kl <;> simp [Lit.sameKey, WideAt.IsKeyLit]
end
section
open Go.Maps
theorem wrap64_hi (n : Int) : wrap64 n ≤ 9223372036854775807 := by
  unfold wrap64
  omega
theorem lkS_mem : ∀ {T : List (SKy × Int)} {x : SKy} {c : Int}, lkS T x = some c → (x, c) ∈ T
  | [], _, _, h => by simp [lkS] at h
  | p :: T, x, c, h => by
    simp only [lkS] at h
    split at h
    · next e =>
      obtain rfl := Option.some.inj h
      subst e
      exact List.mem_cons_self
    · exact List.mem_cons_of_mem _ (lkS_mem h)
theorem lkS_push {T : List (SKy × Int)} {k : SKy} {c : Int} (h : ∀ p ∈ T, lkS T p.1 = some p.2) (hk : lkS T k = none) : ∀ p ∈ (k, c) :: T, lkS ((k, c) :: T) p.1 = some p.2 := by
  intro p hp
  simp only [lkS]
  rcases List.mem_cons.1 hp with rfl | hp
  · rw [if_pos rfl]
  · rw [if_neg (fun e => by rw [← e, h p hp] at hk; cases hk)]
    exact h p hp
def okS (x : SKy) : Prop := (Lit.int .i64 x.a).wf = true ∧ (Lit.int .i64 x.b).wf = true
theorem rngStep {T : List (SKy × Int)} {s : Int} {left : SKy → Prop} {x : SKy} {c : Int} (hx : lkS T x = some c) (hD : ∀ z d, lkS T z = some d → okS z → ¬ left z → badS T s (z, d) = false) (hb : badS T s (x, c) = false) :
    ∀ z d, lkS T z = some d → okS z → ¬ (left z ∧ z ≠ x) → badS T s (z, d) = false := by
  intro z d hz hw hn
  by_cases e : z = x
  · subst e
    rw [hx] at hz
    cases hz
    exact hb
  · exact hD z d hz hw (fun hl => hn ⟨hl, e⟩)
theorem within_t {a b c : Int} (h : impl_within.f a b c = some true) : b ≤ a ∧ a ≤ c := by
  unfold impl_within.f at h
  split at h
  · exact ⟨‹_›, of_decide_eq_true (Option.some.inj h)⟩
  · cases h
theorem aheadT_eq (a0 a1 : Int) (a2 : Bool) (s : Int) : impl_slotKey_ahead.f a0 a1 a2 s = some ((aheadT a0 a1 a2 s).1, (aheadT a0 a1 a2 s).2.1, (aheadT a0 a1 a2 s).2.2.1, (aheadT a0 a1 a2 s).2.2.2) := by
  unfold impl_slotKey_ahead.f aheadT
  cases a2 <;> simp
  split <;> rfl
theorem wf_wrap (x : Int) : (Lit.int .i64 (wrap64 x)).wf = true := wrap64_wf x
theorem aheadT_wf {a0 a1 : Int} {a2 : Bool} {s : Int} (h1 : (Lit.int .i64 a0).wf = true) (h2 : (Lit.int .i64 a1).wf = true) : (Lit.int .i64 (aheadT a0 a1 a2 s).1).wf = true ∧ (Lit.int .i64 (aheadT a0 a1 a2 s).2.1).wf = true := by
  unfold aheadT
  cases a2
  · exact ⟨wrap64_wf _, h2⟩
  · simp only [if_true]
    split
    · exact ⟨h1, h2⟩
    · exact ⟨wrap64_wf _, h2⟩
abbrev SM (w : World) (b n : Nat) (T : List (SKy × Int)) : Prop := OMap Try.prog 112 3 skV w b n (lkS T)
set_option maxHeartbeats 8000000 in
set_option maxRecDepth 100000 in
theorem sok_walk (k : Nat) (A0 : Option Addr) (c0 : Nat) (l0 : List S82) (a1 a2 : Int) (r : Bool) (w : World) (hr0 : Kd.C k82 w A0 l0.length l0) (hc0 : l0.length ≤ c0) (hl : l0.length ≤ 35184372088832)
    (ht : impl_stagesOk.f a1 a2 = some true) (he : (l0.length : Int) = wrap64 (wrap64 (2 * a1) * a2)) (h : sokL k l0 a1 a2 [] 0 = some r) :
    Calls Try.prog 69 #[.slice A0 l0.length c0, .int .i64 a1, .int .i64 a2] w fun e w' => e = .returned (.bool r) ∧ Below w.heap.size w w' := by
  have HR := Aside0.mk (And.intro hr0 (And.intro hc0 hl))
  have HT := Aside0.mk ht
  have H' := Aside0.mk h
  have e1 : ((l0.length : Int) != wrap64 (wrap64 (2 * a1) * a2)) = false := bne_eq_false_iff_eq.mpr he
  clear hr0 hc0 hl ht he h
  have hmm := @run_makeMap Try.prog
  go_enter Try.func69, Try.ntmps69
  go_wp2_with (first | (go_at_call 89; (with_reducible refine (impl_stagesOk.calls a1 a2 true _ HT.out).mono ?_); rintro e w' ⟨rfl, ⟨nd, rfl⟩⟩))
  have M0 := Aside0.mk (show SM ((w.drewN nd).alloc (.map #[] 0)) w.heap.size 0 [] from OMap.made (w.drewN nd))
  have B0 := Aside0.mk (show Below w.heap.size w ((w.drewN nd).alloc (.map #[] 0)) from below_alloc (pw_below_drewN (Below.refl _ w) nd) _)
  have S0 := Aside0.mk (show w.heap.size < ((w.drewN nd).alloc (.map #[] 0)).heap.size from by simp)
  obtain ⟨W0, hW0⟩ : ∃ W0, W0 = (w.drewN nd).alloc (.map #[] 0) := ⟨_, rfl⟩
  rw [← hW0] at M0 B0 S0 ⊢
  clear hW0 hmm
  go_loopg [32] k (fun kq v32 wr => ∃ (i : Int) (T : List (SKy × Int)), v32 = .int .i64 i ∧ Aside0 (sokL kq l0 a1 a2 T i = some r) ∧ Aside0 (kq ≤ k) ∧ Aside0 (SM wr w.heap.size T.length T) ∧ Aside0 ((T.length : Int) = i ∧ (∀ p ∈ T, lkS T p.1 = some p.2) ∧ ∀ p ∈ T, (Lit.int .i64 p.1.a).wf = true ∧ (Lit.int .i64 p.1.b).wf = true) ∧ Aside0 (Below w.heap.size w wr))
  case atStart => exact ⟨0, [], rfl, H', ⟨Nat.le_refl _⟩, M0, ⟨rfl, by simp, by simp⟩, B0⟩
  case round =>
    clear H' M0 B0 S0
    obtain ⟨i, T, rfl, HA, HK1, HM, HI, HB⟩ := hrel
    cases gk with
    | zero => exact absurd HA.out (by simp [sokL])
    | succ k1 =>
      have H := HA.out
      clear HA
      simp only [sokL] at H
      by_cases c6 : i < (l0.length : Int)
      · rw [if_pos c6] at H
        have c6b0 : decide (i < (l0.length : Int)) = true := decide_eq_true c6
        by_cases c7 : 0 ≤ i
        · rw [if_pos c7] at H
          obtain ⟨b, A90, H⟩ := Option.bind_eq_some_iff.mp H
          have A9 := Aside0.mk A90
          have H' := Aside0.mk H
          obtain ⟨ad, e1, hx0, hx1, hx2, hx3⟩ := at_T82 HR.out.1 i c7 c6
          cases e1
          replace hx0 := (HB.out.cell (World.block_lt_of_cell? w _ hx0)).trans hx0
          replace hx1 := (HB.out.cell (World.block_lt_of_cell? w _ hx1)).trans hx1
          replace hx2 := (HB.out.cell (World.block_lt_of_cell? w _ hx2)).trans hx2
          replace hx3 := (HB.out.cell (World.block_lt_of_cell? w _ hx3)).trans hx3
          have c7' := eq_true c7
          have c6' := eq_true c6
          have c67 := Aside0.mk (And.intro c6 c7)
          clear A90 H c6 c7
          go_upto_region 7 with (fail)
          have BX := Aside0.mk (heap_alloc_new wr (.cells #[.int .i64 (rd_T82 l0 i).f0, .int .i64 (rd_T82 l0 i).f1, .int .i64 (rd_T82 l0 i).f2, .bool (rd_T82 l0 i).f3] 82))
          have n0_ := Aside0.mk (show SM (wr.alloc (.cells #[.int .i64 (rd_T82 l0 i).f0, .int .i64 (rd_T82 l0 i).f1, .int .i64 (rd_T82 l0 i).f2, .bool (rd_T82 l0 i).f3] 82)) w.heap.size T.length T from OMap.kept HM.out (World.grownBy_alloc _ _ none) (by simp))
          have n1_ := Aside0.mk (show Below w.heap.size w (wr.alloc (.cells #[.int .i64 (rd_T82 l0 i).f0, .int .i64 (rd_T82 l0 i).f1, .int .i64 (rd_T82 l0 i).f2, .bool (rd_T82 l0 i).f3] 82)) from below_alloc HB.out _)
          have n2_ := Aside0.mk (show w.heap.size < wr.heap.size from OMap.lt HM.out)
          have n3_ := Aside0.mk (show w.heap.size < (wr.alloc (.cells #[.int .i64 (rd_T82 l0 i).f0, .int .i64 (rd_T82 l0 i).f1, .int .i64 (rd_T82 l0 i).f2, .bool (rd_T82 l0 i).f3] 82)).heap.size from by have := HB.out.size; simp; omega)
          clear HM HB
          have HM := n0_
          have HB := n1_
          have HG := n2_
          have HZ := n3_
          clear n0_ n1_ n2_ n3_
          obtain ⟨W1, hW1⟩ : ∃ W1, W1 = wr.alloc (.cells #[.int .i64 (rd_T82 l0 i).f0, .int .i64 (rd_T82 l0 i).f1, .int .i64 (rd_T82 l0 i).f2, .bool (rd_T82 l0 i).f3] 82) := ⟨_, rfl⟩
          rw [← hW1] at BX HM HB HZ ⊢
          obtain ⟨gx, hgx⟩ : ∃ gx, gx = wr.heap.size := ⟨_, rfl⟩
          rw [← hgx] at BX HG ⊢
          clear hW1 hgx hx0 hx1 hx2 hx3
          have k0 := (blk_cell BX.out 0).trans (show (#[.int .i64 (rd_T82 l0 i).f0, .int .i64 (rd_T82 l0 i).f1, .int .i64 (rd_T82 l0 i).f2, .bool (rd_T82 l0 i).f3] : Array Value)[0]? = some (Value.int .i64 (rd_T82 l0 i).f0) from rfl)
          have k1_ := (blk_cell BX.out 1).trans (show (#[.int .i64 (rd_T82 l0 i).f0, .int .i64 (rd_T82 l0 i).f1, .int .i64 (rd_T82 l0 i).f2, .bool (rd_T82 l0 i).f3] : Array Value)[1]? = some (Value.int .i64 (rd_T82 l0 i).f1) from rfl)
          have k2 := (blk_cell BX.out 2).trans (show (#[.int .i64 (rd_T82 l0 i).f0, .int .i64 (rd_T82 l0 i).f1, .int .i64 (rd_T82 l0 i).f2, .bool (rd_T82 l0 i).f3] : Array Value)[2]? = some (Value.int .i64 (rd_T82 l0 i).f2) from rfl)
          have k3 := (blk_cell BX.out 3).trans (show (#[.int .i64 (rd_T82 l0 i).f0, .int .i64 (rd_T82 l0 i).f1, .int .i64 (rd_T82 l0 i).f2, .bool (rd_T82 l0 i).f3] : Array Value)[3]? = some (Value.bool (rd_T82 l0 i).f3) from rfl)
          obtain ⟨b1, G1_, A10⟩ := Option.bind_eq_some_iff.mp (show rejS k1 l0 a1 a2 i = some b from A9.out)
          have G1 := Aside0.mk G1_
          clear G1_ A9
          cases b1 with
          | false =>
            obtain rfl : true = b := by simpa using A10
            obtain rfl : false = r := by simpa using H'.out
            clear H' A10
            go_quiet (first | (go_at_call 57; with_reducible exact Calls.quiet_of ((impl_within.calls (rd_T82 l0 i).f0 0 10000 false _ G1.out).mono (fun _ _ h => ⟨h.1, h.2.out⟩))))
            go_wp2
            go_ret
            exact ⟨rfl, by repeat (first | (with_reducible first | exact HB.out | apply below_alloc | apply pw_below_drewN | apply below_drew1) | exact HB.out)⟩
          | true =>
          rw [if_pos rfl] at A10
          obtain ⟨b2, G2_, A11⟩ := Option.bind_eq_some_iff.mp A10
          have G2 := Aside0.mk G2_
          clear G2_ A10
          cases b2 with
          | false =>
            obtain rfl : true = b := by simpa using A11
            obtain rfl : false = r := by simpa using H'.out
            clear H' A11
            go_quiet (first | (go_at_call 57; with_reducible exact Calls.quiet_of ((impl_within.calls (rd_T82 l0 i).f0 0 10000 true _ G1.out).mono (fun _ _ h => ⟨h.1, h.2.out⟩))) | (go_at_call 57; with_reducible exact Calls.quiet_of ((impl_within.calls (rd_T82 l0 i).f1 0 (wrap64 (a1 - 1)) false _ G2.out).mono (fun _ _ h => ⟨h.1, h.2.out⟩))))
            go_wp2
            go_ret
            exact ⟨rfl, by repeat (first | (with_reducible first | exact HB.out | apply below_alloc | apply pw_below_drewN | apply below_drew1) | exact HB.out)⟩
          | true =>
          rw [if_pos rfl] at A11
          obtain ⟨b3, G3_, A12⟩ := Option.bind_eq_some_iff.mp A11
          have G3 := Aside0.mk G3_
          clear G3_ A11
          cases b3 with
          | false =>
            obtain rfl : true = b := by simpa using A12
            obtain rfl : false = r := by simpa using H'.out
            clear H' A12
            go_quiet (first | (go_at_call 57; with_reducible exact Calls.quiet_of ((impl_within.calls (rd_T82 l0 i).f0 0 10000 true _ G1.out).mono (fun _ _ h => ⟨h.1, h.2.out⟩))) | (go_at_call 57; with_reducible exact Calls.quiet_of ((impl_within.calls (rd_T82 l0 i).f1 0 (wrap64 (a1 - 1)) true _ G2.out).mono (fun _ _ h => ⟨h.1, h.2.out⟩))) | (go_at_call 57; with_reducible exact Calls.quiet_of ((impl_within.calls (rd_T82 l0 i).f2 0 (wrap64 (a2 - 1)) false _ G3.out).mono (fun _ _ h => ⟨h.1, h.2.out⟩))))
            go_wp2
            go_ret
            exact ⟨rfl, by repeat (first | (with_reducible first | exact HB.out | apply below_alloc | apply pw_below_drewN | apply below_drew1) | exact HB.out)⟩
          | true =>
          rw [if_pos rfl] at A12
          by_cases c8 : i > 0
          · rw [if_pos c8] at A12
            obtain ⟨c, G4_, A13⟩ := Option.bind_eq_some_iff.mp A12
            have G4 := Aside0.mk G4_
            clear G4_ A12
            have e_ : wrap64 (i - 1) = i - 1 := by unfold wrap64; have := c67.out; have := HR.out.2.2; omega
            obtain ⟨j, hj⟩ : ∃ j, j = i - 1 := ⟨_, rfl⟩
            replace e_ : wrap64 (i - 1) = j := e_.trans hj.symm
            have G5 := Aside0.mk (show impl_bySlot.f k1 (rd_T82 l0 j).f0 (rd_T82 l0 j).f1 (rd_T82 l0 j).f2 (rd_T82 l0 j).f3 (rd_T82 l0 i).f0 (rd_T82 l0 i).f1 (rd_T82 l0 i).f2 (rd_T82 l0 i).f3 = some c from by have h_ := G4.out; rw [e_] at h_; exact h_)
            clear G4
            have hw_ : IntKind.i64.wrap (i - 1) = j := by rw [i64_w]; exact e_
            have p1 : 0 ≤ j := by omega
            have q1 : j < (l0.length : Int) := by have := c67.out; omega
            clear e_ hj
            obtain ⟨ad2, e2, hy0, hy1, hy2, hy3⟩ := at_T82 HR.out.1 j p1 q1
            obtain rfl := Option.some.inj e2
            have HY := Aside0.mk (And.intro hy0 (And.intro hy1 (And.intro hy2 hy3)))
            replace hy0 := (HB.out.cell (World.block_lt_of_cell? w _ hy0)).trans hy0
            replace hy1 := (HB.out.cell (World.block_lt_of_cell? w _ hy1)).trans hy1
            replace hy2 := (HB.out.cell (World.block_lt_of_cell? w _ hy2)).trans hy2
            replace hy3 := (HB.out.cell (World.block_lt_of_cell? w _ hy3)).trans hy3
            replace p1 := eq_true p1
            replace q1 := eq_true q1
            have c8b0 : decide (i > 0) = true := decide_eq_true c8
            clear c8
            by_cases c9 : c ≥ 0
            · obtain rfl : true = b := by simpa [c9] using A13
              obtain rfl : false = r := by simpa using H'.out
              have c9b0 : decide (c ≥ 0) = true := decide_eq_true c9
              clear H' A13 c9
              go_region_held3 (fun w' => w'.cell? ⟨gx, 0, none⟩ = some (.int .i64 (rd_T82 l0 i).f0) ∧ w'.cell? ⟨gx, 1, none⟩ = some (.int .i64 (rd_T82 l0 i).f1) ∧ w'.cell? ⟨gx, 2, none⟩ = some (.int .i64 (rd_T82 l0 i).f2) ∧ w'.cell? ⟨gx, 3, none⟩ = some (.bool (rd_T82 l0 i).f3) ∧ w'.cell? (ad.add (j.toNat * 4)) = some (.int .i64 (rd_T82 l0 j).f0) ∧ w'.cell? ⟨(ad.add (j.toNat * 4)).block, (ad.add (j.toNat * 4)).off + 1, none⟩ = some (.int .i64 (rd_T82 l0 j).f1) ∧ w'.cell? ⟨(ad.add (j.toNat * 4)).block, (ad.add (j.toNat * 4)).off + 2, none⟩ = some (.int .i64 (rd_T82 l0 j).f2) ∧ w'.cell? ⟨(ad.add (j.toNat * 4)).block, (ad.add (j.toNat * 4)).off + 3, none⟩ = some (.bool (rd_T82 l0 j).f3)) (first | exact ⟨(blk_cell (by (with_reducible repeat (first | refine blk_drewN ?_ _ | refine blk_drew ?_ | refine blk_alloc ?_ _)); exact BX.out) 0).trans rfl, (blk_cell (by (with_reducible repeat (first | refine blk_drewN ?_ _ | refine blk_drew ?_ | refine blk_alloc ?_ _)); exact BX.out) 1).trans rfl, (blk_cell (by (with_reducible repeat (first | refine blk_drewN ?_ _ | refine blk_drew ?_ | refine blk_alloc ?_ _)); exact BX.out) 2).trans rfl, (blk_cell (by (with_reducible repeat (first | refine blk_drewN ?_ _ | refine blk_drew ?_ | refine blk_alloc ?_ _)); exact BX.out) 3).trans rfl, (Below.cell (by repeat (first | (with_reducible first | exact HB.out | apply below_alloc | apply pw_below_drewN | apply below_drew1) | exact HB.out)) (World.block_lt_of_cell? w _ HY.out.1)).trans HY.out.1, (Below.cell (by repeat (first | (with_reducible first | exact HB.out | apply below_alloc | apply pw_below_drewN | apply below_drew1) | exact HB.out)) (World.block_lt_of_cell? w _ HY.out.2.1)).trans HY.out.2.1, (Below.cell (by repeat (first | (with_reducible first | exact HB.out | apply below_alloc | apply pw_below_drewN | apply below_drew1) | exact HB.out)) (World.block_lt_of_cell? w _ HY.out.2.2.1)).trans HY.out.2.2.1, (Below.cell (by repeat (first | (with_reducible first | exact HB.out | apply below_alloc | apply pw_below_drewN | apply below_drew1) | exact HB.out)) (World.block_lt_of_cell? w _ HY.out.2.2.2)).trans HY.out.2.2.2⟩ | go_keep) (first | (go_at_call 57; (try simp only [i64_w]); (with_reducible refine (impl_within.calls (rd_T82 l0 i).f0 0 10000 true _ G1.out).mono ?_); rintro e w' ⟨rfl, ⟨nd, rfl⟩⟩) | (go_at_call 57; (try simp only [i64_w]); (with_reducible refine (impl_within.calls (rd_T82 l0 i).f1 0 (wrap64 (a1 - 1)) true _ G2.out).mono ?_); rintro e w' ⟨rfl, ⟨nd, rfl⟩⟩) | (go_at_call 57; (try simp only [i64_w]); (with_reducible refine (impl_within.calls (rd_T82 l0 i).f2 0 (wrap64 (a2 - 1)) true _ G3.out).mono ?_); rintro e w' ⟨rfl, ⟨nd, rfl⟩⟩) | (go_at_call 90; (with_reducible refine (impl_bySlot.calls k1 (rd_T82 l0 j).f0 (rd_T82 l0 j).f1 (rd_T82 l0 j).f2 (rd_T82 l0 j).f3 (rd_T82 l0 i).f0 (rd_T82 l0 i).f1 (rd_T82 l0 i).f2 (rd_T82 l0 i).f3 c _ G5.out).mono ?_); rintro e w5 ⟨rfl, hb5⟩; have n0_ := Aside0.mk (below_step (by repeat (first | (with_reducible first | exact HB.out | apply below_alloc | apply pw_below_drewN | apply below_drew1) | exact HB.out)) hb5); have n1_ := Aside0.mk (blk_below (by (with_reducible repeat (first | refine blk_drewN ?_ _ | refine blk_drew ?_ | refine blk_alloc ?_ _)); exact BX.out) hb5); have n2_ := Aside0.mk (OMap.block HM.out (hb5.block _ (show w.heap.size < W1.heap.size from HZ.out))); have n3_ := Aside0.mk (show w.heap.size < w5.heap.size from Nat.lt_of_lt_of_le HZ.out hb5.size); clear HB BX HM HZ; have HB := n0_; have BX := n1_; have HM := n2_; have HZ := n3_; clear n0_ n1_ n2_ n3_))
              go_wp2
              go_ret
              exact ⟨rfl, HB.out⟩
            · obtain rfl : false = b := by simpa [c9] using A13
              have H := H'.out
              rw [if_neg (by simp)] at H
              have c9b0 : decide (c ≥ 0) = false := decide_eq_false c9
              clear H' A13 c9
              go_region_held3 (fun w' => w'.cell? ⟨gx, 0, none⟩ = some (.int .i64 (rd_T82 l0 i).f0) ∧ w'.cell? ⟨gx, 1, none⟩ = some (.int .i64 (rd_T82 l0 i).f1) ∧ w'.cell? ⟨gx, 2, none⟩ = some (.int .i64 (rd_T82 l0 i).f2) ∧ w'.cell? ⟨gx, 3, none⟩ = some (.bool (rd_T82 l0 i).f3) ∧ w'.cell? (ad.add (j.toNat * 4)) = some (.int .i64 (rd_T82 l0 j).f0) ∧ w'.cell? ⟨(ad.add (j.toNat * 4)).block, (ad.add (j.toNat * 4)).off + 1, none⟩ = some (.int .i64 (rd_T82 l0 j).f1) ∧ w'.cell? ⟨(ad.add (j.toNat * 4)).block, (ad.add (j.toNat * 4)).off + 2, none⟩ = some (.int .i64 (rd_T82 l0 j).f2) ∧ w'.cell? ⟨(ad.add (j.toNat * 4)).block, (ad.add (j.toNat * 4)).off + 3, none⟩ = some (.bool (rd_T82 l0 j).f3)) (first | exact ⟨(blk_cell (by (with_reducible repeat (first | refine blk_drewN ?_ _ | refine blk_drew ?_ | refine blk_alloc ?_ _)); exact BX.out) 0).trans rfl, (blk_cell (by (with_reducible repeat (first | refine blk_drewN ?_ _ | refine blk_drew ?_ | refine blk_alloc ?_ _)); exact BX.out) 1).trans rfl, (blk_cell (by (with_reducible repeat (first | refine blk_drewN ?_ _ | refine blk_drew ?_ | refine blk_alloc ?_ _)); exact BX.out) 2).trans rfl, (blk_cell (by (with_reducible repeat (first | refine blk_drewN ?_ _ | refine blk_drew ?_ | refine blk_alloc ?_ _)); exact BX.out) 3).trans rfl, (Below.cell (by repeat (first | (with_reducible first | exact HB.out | apply below_alloc | apply pw_below_drewN | apply below_drew1) | exact HB.out)) (World.block_lt_of_cell? w _ HY.out.1)).trans HY.out.1, (Below.cell (by repeat (first | (with_reducible first | exact HB.out | apply below_alloc | apply pw_below_drewN | apply below_drew1) | exact HB.out)) (World.block_lt_of_cell? w _ HY.out.2.1)).trans HY.out.2.1, (Below.cell (by repeat (first | (with_reducible first | exact HB.out | apply below_alloc | apply pw_below_drewN | apply below_drew1) | exact HB.out)) (World.block_lt_of_cell? w _ HY.out.2.2.1)).trans HY.out.2.2.1, (Below.cell (by repeat (first | (with_reducible first | exact HB.out | apply below_alloc | apply pw_below_drewN | apply below_drew1) | exact HB.out)) (World.block_lt_of_cell? w _ HY.out.2.2.2)).trans HY.out.2.2.2⟩ | go_keep) (first | (go_at_call 57; (try simp only [i64_w]); (with_reducible refine (impl_within.calls (rd_T82 l0 i).f0 0 10000 true _ G1.out).mono ?_); rintro e w' ⟨rfl, ⟨nd, rfl⟩⟩) | (go_at_call 57; (try simp only [i64_w]); (with_reducible refine (impl_within.calls (rd_T82 l0 i).f1 0 (wrap64 (a1 - 1)) true _ G2.out).mono ?_); rintro e w' ⟨rfl, ⟨nd, rfl⟩⟩) | (go_at_call 57; (try simp only [i64_w]); (with_reducible refine (impl_within.calls (rd_T82 l0 i).f2 0 (wrap64 (a2 - 1)) true _ G3.out).mono ?_); rintro e w' ⟨rfl, ⟨nd, rfl⟩⟩) | (go_at_call 90; (with_reducible refine (impl_bySlot.calls k1 (rd_T82 l0 j).f0 (rd_T82 l0 j).f1 (rd_T82 l0 j).f2 (rd_T82 l0 j).f3 (rd_T82 l0 i).f0 (rd_T82 l0 i).f1 (rd_T82 l0 i).f2 (rd_T82 l0 i).f3 c _ G5.out).mono ?_); rintro e w5 ⟨rfl, hb5⟩; have n0_ := Aside0.mk (below_step (by repeat (first | (with_reducible first | exact HB.out | apply below_alloc | apply pw_below_drewN | apply below_drew1) | exact HB.out)) hb5); have n1_ := Aside0.mk (blk_below (by (with_reducible repeat (first | refine blk_drewN ?_ _ | refine blk_drew ?_ | refine blk_alloc ?_ _)); exact BX.out) hb5); have n2_ := Aside0.mk (OMap.block HM.out (hb5.block _ (show w.heap.size < W1.heap.size from HZ.out))); have n3_ := Aside0.mk (show w.heap.size < w5.heap.size from Nat.lt_of_lt_of_le HZ.out hb5.size); clear HB BX HM HZ; have HB := n0_; have BX := n1_; have HM := n2_; have HZ := n3_; clear n0_ n1_ n2_ n3_))
              clear hy0 hy1 hy2 hy3
              clear k0 k1_ k2 k3
              have kk0 := (blk_cell BX.out 0).trans (show ((#[.int .i64 (rd_T82 l0 i).f0, .int .i64 (rd_T82 l0 i).f1, .int .i64 (rd_T82 l0 i).f2, .bool (rd_T82 l0 i).f3] : Array Value))[0]? = some (Value.int .i64 (rd_T82 l0 i).f0) from rfl)
              have kk1 := (blk_cell BX.out 1).trans (show ((#[.int .i64 (rd_T82 l0 i).f0, .int .i64 (rd_T82 l0 i).f1, .int .i64 (rd_T82 l0 i).f2, .bool (rd_T82 l0 i).f3] : Array Value))[1]? = some (Value.int .i64 (rd_T82 l0 i).f1) from rfl)
              have kk2 := (blk_cell BX.out 2).trans (show ((#[.int .i64 (rd_T82 l0 i).f0, .int .i64 (rd_T82 l0 i).f1, .int .i64 (rd_T82 l0 i).f2, .bool (rd_T82 l0 i).f3] : Array Value))[2]? = some (Value.int .i64 (rd_T82 l0 i).f2) from rfl)
              have kk3 := (blk_cell BX.out 3).trans (show ((#[.int .i64 (rd_T82 l0 i).f0, .int .i64 (rd_T82 l0 i).f1, .int .i64 (rd_T82 l0 i).f2, .bool (rd_T82 l0 i).f3] : Array Value))[3]? = some (Value.bool (rd_T82 l0 i).f3) from rfl)
              have HWS := Aside0.mk (And.intro (within_t G2.out) (within_t G3.out))
              have HTS := within_t G1.out
              have HWF := Aside0.mk (show (Lit.int .i64 (rd_T82 l0 i).f0).wf = true from WalkArith.wf_i64 (by omega))
              have w1_ : (Lit.int .i64 (rd_T82 l0 i).f1).wf = true := WalkArith.wf_i64 (by have := HWS.out; have := wrap64_hi (a1 - 1); omega)
              have w2_ : (Lit.int .i64 (rd_T82 l0 i).f2).wf = true := WalkArith.wf_i64 (by have := HWS.out; have := wrap64_hi (a2 - 1); omega)
              obtain ⟨kl, hkl⟩ := sk_key (⟨(rd_T82 l0 i).f1, (rd_T82 l0 i).f2, (rd_T82 l0 i).f3⟩ : SKy) w1_ w2_
              have HKL := Aside0.mk hkl
              have HW12 := Aside0.mk (And.intro w1_ w2_)
              have HN := Aside0.mk (show T.length < maxLen from by have := HI.out.1; have := c67.out; have := HR.out.2.2; unfold maxLen; omega)
              clear hkl w1_ w2_ HTS HWS
              by_cases c10 : (lkS T (⟨(rd_T82 l0 i).f1, (rd_T82 l0 i).f2, (rd_T82 l0 i).f3⟩ : SKy)).isSome = true
              · rw [if_pos c10] at H
                obtain rfl := Option.some.inj H
                clear H
                go_wp2_with (first | (go_at_call 91; (with_reducible refine (impl_Slot_key.calls (rd_T82 l0 i).f0 (rd_T82 l0 i).f1 (rd_T82 l0 i).f2 (rd_T82 l0 i).f3 _ _ _ _ rfl).mono ?_); rintro e w6 ⟨rfl, hb6⟩; have n0_ := Aside0.mk (below_step (by repeat (first | (with_reducible first | exact HB.out | apply below_alloc | apply pw_below_drewN | apply below_drew1) | exact HB.out)) hb6); have n1_ := Aside0.mk (blk_below (by (with_reducible repeat (first | refine blk_drewN ?_ _ | refine blk_drew ?_ | refine blk_alloc ?_ _)); exact BX.out) hb6); have n2_ := Aside0.mk (OMap.block HM.out (hb6.block _ (show w.heap.size < w5.heap.size from HZ.out))); have n3_ := Aside0.mk (Nat.lt_of_lt_of_le (show w.heap.size < w5.heap.size from HZ.out) hb6.size); clear HB BX HM HZ; have HB := n0_; have BX := n1_; have HM := n2_; have HZ := n3_; clear n0_ n1_ n2_ n3_; have kq0 := (blk_cell BX.out 0).trans (show ((#[.int .i64 (rd_T82 l0 i).f0, .int .i64 (rd_T82 l0 i).f1, .int .i64 (rd_T82 l0 i).f2, .bool (rd_T82 l0 i).f3] : Array Value))[0]? = some (Value.int .i64 (rd_T82 l0 i).f0) from rfl); have kq1 := (blk_cell BX.out 1).trans (show ((#[.int .i64 (rd_T82 l0 i).f0, .int .i64 (rd_T82 l0 i).f1, .int .i64 (rd_T82 l0 i).f2, .bool (rd_T82 l0 i).f3] : Array Value))[1]? = some (Value.int .i64 (rd_T82 l0 i).f1) from rfl); have kq2 := (blk_cell BX.out 2).trans (show ((#[.int .i64 (rd_T82 l0 i).f0, .int .i64 (rd_T82 l0 i).f1, .int .i64 (rd_T82 l0 i).f2, .bool (rd_T82 l0 i).f3] : Array Value))[2]? = some (Value.int .i64 (rd_T82 l0 i).f2) from rfl); have kq3 := (blk_cell BX.out 3).trans (show ((#[.int .i64 (rd_T82 l0 i).f0, .int .i64 (rd_T82 l0 i).f1, .int .i64 (rd_T82 l0 i).f2, .bool (rd_T82 l0 i).f3] : Array Value))[3]? = some (Value.bool (rd_T82 l0 i).f3) from rfl)) | (at_lookup; refine wpList_lookup_omap_ok (T := 108) rfl _ _ rfl sk_law Try.underlying108 Try.underlying3 sk_zero rfl HM.out (⟨(rd_T82 l0 i).f1, (rd_T82 l0 i).f2, (rd_T82 l0 i).f3⟩ : SKy) rfl HKL.out ?_))
                go_ret
                exact ⟨rfl, HB.out⟩
              · rw [if_neg c10] at H
                have H' := Aside0.mk H
                have c10b : (lkS T (⟨(rd_T82 l0 i).f1, (rd_T82 l0 i).f2, (rd_T82 l0 i).f3⟩ : SKy)).isSome = false := by simpa using c10
                clear H c10
                go_upto_region 12 with (first | (go_at_call 91; (with_reducible refine (impl_Slot_key.calls (rd_T82 l0 i).f0 (rd_T82 l0 i).f1 (rd_T82 l0 i).f2 (rd_T82 l0 i).f3 _ _ _ _ rfl).mono ?_); rintro e w6 ⟨rfl, hb6⟩; have n0_ := Aside0.mk (below_step (by repeat (first | (with_reducible first | exact HB.out | apply below_alloc | apply pw_below_drewN | apply below_drew1) | exact HB.out)) hb6); have n1_ := Aside0.mk (blk_below (by (with_reducible repeat (first | refine blk_drewN ?_ _ | refine blk_drew ?_ | refine blk_alloc ?_ _)); exact BX.out) hb6); have n2_ := Aside0.mk (OMap.block HM.out (hb6.block _ (show w.heap.size < w5.heap.size from HZ.out))); have n3_ := Aside0.mk (Nat.lt_of_lt_of_le (show w.heap.size < w5.heap.size from HZ.out) hb6.size); clear HB BX HM HZ; have HB := n0_; have BX := n1_; have HM := n2_; have HZ := n3_; clear n0_ n1_ n2_ n3_; have kq0 := (blk_cell BX.out 0).trans (show ((#[.int .i64 (rd_T82 l0 i).f0, .int .i64 (rd_T82 l0 i).f1, .int .i64 (rd_T82 l0 i).f2, .bool (rd_T82 l0 i).f3] : Array Value))[0]? = some (Value.int .i64 (rd_T82 l0 i).f0) from rfl); have kq1 := (blk_cell BX.out 1).trans (show ((#[.int .i64 (rd_T82 l0 i).f0, .int .i64 (rd_T82 l0 i).f1, .int .i64 (rd_T82 l0 i).f2, .bool (rd_T82 l0 i).f3] : Array Value))[1]? = some (Value.int .i64 (rd_T82 l0 i).f1) from rfl); have kq2 := (blk_cell BX.out 2).trans (show ((#[.int .i64 (rd_T82 l0 i).f0, .int .i64 (rd_T82 l0 i).f1, .int .i64 (rd_T82 l0 i).f2, .bool (rd_T82 l0 i).f3] : Array Value))[2]? = some (Value.int .i64 (rd_T82 l0 i).f2) from rfl); have kq3 := (blk_cell BX.out 3).trans (show ((#[.int .i64 (rd_T82 l0 i).f0, .int .i64 (rd_T82 l0 i).f1, .int .i64 (rd_T82 l0 i).f2, .bool (rd_T82 l0 i).f3] : Array Value))[3]? = some (Value.bool (rd_T82 l0 i).f3) from rfl)) | (at_lookup; refine wpList_lookup_omap_ok (T := 108) rfl _ _ rfl sk_law Try.underlying108 Try.underlying3 sk_zero rfl HM.out (⟨(rd_T82 l0 i).f1, (rd_T82 l0 i).f2, (rd_T82 l0 i).f3⟩ : SKy) rfl HKL.out ?_))
                clear kk0 kk1 kk2 kk3
                go_region_held3 (fun w' => w'.cell? ⟨gx, 0, none⟩ = some (.int .i64 (rd_T82 l0 i).f0) ∧ w'.cell? ⟨gx, 1, none⟩ = some (.int .i64 (rd_T82 l0 i).f1) ∧ w'.cell? ⟨gx, 2, none⟩ = some (.int .i64 (rd_T82 l0 i).f2) ∧ w'.cell? ⟨gx, 3, none⟩ = some (.bool (rd_T82 l0 i).f3)) (first | exact ⟨(blk_cell (by (with_reducible repeat (first | refine blk_drewN ?_ _ | refine blk_drew ?_ | refine blk_alloc ?_ _)); exact BX.out) 0).trans rfl, (blk_cell (by (with_reducible repeat (first | refine blk_drewN ?_ _ | refine blk_drew ?_ | refine blk_alloc ?_ _)); exact BX.out) 1).trans rfl, (blk_cell (by (with_reducible repeat (first | refine blk_drewN ?_ _ | refine blk_drew ?_ | refine blk_alloc ?_ _)); exact BX.out) 2).trans rfl, (blk_cell (by (with_reducible repeat (first | refine blk_drewN ?_ _ | refine blk_drew ?_ | refine blk_alloc ?_ _)); exact BX.out) 3).trans rfl⟩ | exact ⟨(blk_cell BX7.out 0).trans rfl, (blk_cell BX7.out 1).trans rfl, (blk_cell BX7.out 2).trans rfl, (blk_cell BX7.out 3).trans rfl⟩ | go_keep) (first | (go_at_call 91; (with_reducible refine (impl_Slot_key.calls (rd_T82 l0 i).f0 (rd_T82 l0 i).f1 (rd_T82 l0 i).f2 (rd_T82 l0 i).f3 _ _ _ _ rfl).mono ?_); rintro e w7 ⟨rfl, hb7⟩; have n0_ := Aside0.mk (below_step (by repeat (first | (with_reducible first | exact HB.out | apply below_alloc | apply pw_below_drewN | apply below_drew1) | exact HB.out)) hb7); have n1_ := Aside0.mk (blk_below (by (with_reducible repeat (first | refine blk_drewN ?_ _ | refine blk_drew ?_ | refine blk_alloc ?_ _)); exact BX.out) hb7); have n2_ := Aside0.mk (OMap.block HM.out (hb7.block _ (show w.heap.size < w6.heap.size from HZ.out))); have n3_ := Aside0.mk (Nat.lt_of_lt_of_le (show w.heap.size < w6.heap.size from HZ.out) hb7.size); clear HB BX HM HZ; have HB := n0_; have BX := n1_; have HM := n2_; have HZ := n3_; clear n0_ n1_ n2_ n3_; have kr0 := (blk_cell BX.out 0).trans (show ((#[.int .i64 (rd_T82 l0 i).f0, .int .i64 (rd_T82 l0 i).f1, .int .i64 (rd_T82 l0 i).f2, .bool (rd_T82 l0 i).f3] : Array Value))[0]? = some (Value.int .i64 (rd_T82 l0 i).f0) from rfl); have kr1 := (blk_cell BX.out 1).trans (show ((#[.int .i64 (rd_T82 l0 i).f0, .int .i64 (rd_T82 l0 i).f1, .int .i64 (rd_T82 l0 i).f2, .bool (rd_T82 l0 i).f3] : Array Value))[1]? = some (Value.int .i64 (rd_T82 l0 i).f1) from rfl); have kr2 := (blk_cell BX.out 2).trans (show ((#[.int .i64 (rd_T82 l0 i).f0, .int .i64 (rd_T82 l0 i).f1, .int .i64 (rd_T82 l0 i).f2, .bool (rd_T82 l0 i).f3] : Array Value))[2]? = some (Value.int .i64 (rd_T82 l0 i).f2) from rfl); have kr3 := (blk_cell BX.out 3).trans (show ((#[.int .i64 (rd_T82 l0 i).f0, .int .i64 (rd_T82 l0 i).f1, .int .i64 (rd_T82 l0 i).f2, .bool (rd_T82 l0 i).f3] : Array Value))[3]? = some (Value.bool (rd_T82 l0 i).f3) from rfl); obtain ⟨w8, hst, hm8, hg8⟩ := OMap.store HM.out sk_law skV_inj Try.underlying108 Try.underlying3 HN.out HKL.out HWF.out; have HM8 := Aside0.mk hm8; have HB8 := Aside0.mk (HB.out.grown hg8 (Nat.le_of_lt HZ.out) (fun g e => by cases e; exact Nat.le_refl _)); have BX7 := Aside0.mk ((hg8.block gx (blk_lt BX.out) (by intro e; have h1_ := HG.out; injection e with e; omega)).trans BX.out); clear hm8 hg8; simp only [skV] at hst))
                go_wp2
                go_roundg k1
                case measure => have := HK1.out; omega
                case rel => exact ⟨wrap64 (i + 1), ((⟨(rd_T82 l0 i).f1, (rd_T82 l0 i).f2, (rd_T82 l0 i).f3⟩ : SKy), (rd_T82 l0 i).f0) :: T, rfl, H', ⟨by have := HK1.out; omega⟩, ⟨HM8.out⟩, ⟨by have := HI.out.1; have := c67.out; have := HR.out.2.2; rw [List.length_cons]; unfold wrap64; omega, lkS_push HI.out.2.1 (by simpa using c10b), fun p hp => by rcases List.mem_cons.1 hp with rfl | hp; exact HW12.out; exact HI.out.2.2 p hp⟩, HB8⟩
          · rw [if_neg c8] at A12
            obtain rfl : false = b := by simpa using A12
            have H := H'.out
            rw [if_neg (by simp)] at H
            have c8b0 : decide (i > 0) = false := decide_eq_false c8
            clear H' A12
            go_quiet (first | (go_at_call 57; with_reducible exact Calls.quiet_of ((impl_within.calls (rd_T82 l0 i).f0 0 10000 true _ G1.out).mono (fun _ _ h => ⟨h.1, h.2.out⟩))) | (go_at_call 57; with_reducible exact Calls.quiet_of ((impl_within.calls (rd_T82 l0 i).f1 0 (wrap64 (a1 - 1)) true _ G2.out).mono (fun _ _ h => ⟨h.1, h.2.out⟩))) | (go_at_call 57; with_reducible exact Calls.quiet_of ((impl_within.calls (rd_T82 l0 i).f2 0 (wrap64 (a2 - 1)) true _ G3.out).mono (fun _ _ h => ⟨h.1, h.2.out⟩))))
            have n0_ := Aside0.mk (show Below w.heap.size w (W1.drewN nq) from pw_below_drewN HB.out nq)
            have n1_ := Aside0.mk (blk_drewN BX.out nq)
            have n2_ := Aside0.mk (show SM (W1.drewN nq) w.heap.size T.length T from OMap.block HM.out rfl)
            have n3_ := Aside0.mk (show w.heap.size < (W1.drewN nq).heap.size from HZ.out)
            clear HB BX HM HZ
            have HB := n0_
            have BX := n1_
            have HM := n2_
            have HZ := n3_
            clear n0_ n1_ n2_ n3_
            revert HB BX HM HZ
            generalize W1.drewN nq = w5
            intro HB BX HM HZ
            clear k0 k1_ k2 k3
            have kk0 := (blk_cell BX.out 0).trans (show ((#[.int .i64 (rd_T82 l0 i).f0, .int .i64 (rd_T82 l0 i).f1, .int .i64 (rd_T82 l0 i).f2, .bool (rd_T82 l0 i).f3] : Array Value))[0]? = some (Value.int .i64 (rd_T82 l0 i).f0) from rfl)
            have kk1 := (blk_cell BX.out 1).trans (show ((#[.int .i64 (rd_T82 l0 i).f0, .int .i64 (rd_T82 l0 i).f1, .int .i64 (rd_T82 l0 i).f2, .bool (rd_T82 l0 i).f3] : Array Value))[1]? = some (Value.int .i64 (rd_T82 l0 i).f1) from rfl)
            have kk2 := (blk_cell BX.out 2).trans (show ((#[.int .i64 (rd_T82 l0 i).f0, .int .i64 (rd_T82 l0 i).f1, .int .i64 (rd_T82 l0 i).f2, .bool (rd_T82 l0 i).f3] : Array Value))[2]? = some (Value.int .i64 (rd_T82 l0 i).f2) from rfl)
            have kk3 := (blk_cell BX.out 3).trans (show ((#[.int .i64 (rd_T82 l0 i).f0, .int .i64 (rd_T82 l0 i).f1, .int .i64 (rd_T82 l0 i).f2, .bool (rd_T82 l0 i).f3] : Array Value))[3]? = some (Value.bool (rd_T82 l0 i).f3) from rfl)
            have HWS := Aside0.mk (And.intro (within_t G2.out) (within_t G3.out))
            have HTS := within_t G1.out
            have HWF := Aside0.mk (show (Lit.int .i64 (rd_T82 l0 i).f0).wf = true from WalkArith.wf_i64 (by omega))
            have w1_ : (Lit.int .i64 (rd_T82 l0 i).f1).wf = true := WalkArith.wf_i64 (by have := HWS.out; have := wrap64_hi (a1 - 1); omega)
            have w2_ : (Lit.int .i64 (rd_T82 l0 i).f2).wf = true := WalkArith.wf_i64 (by have := HWS.out; have := wrap64_hi (a2 - 1); omega)
            obtain ⟨kl, hkl⟩ := sk_key (⟨(rd_T82 l0 i).f1, (rd_T82 l0 i).f2, (rd_T82 l0 i).f3⟩ : SKy) w1_ w2_
            have HKL := Aside0.mk hkl
            have HW12 := Aside0.mk (And.intro w1_ w2_)
            have HN := Aside0.mk (show T.length < maxLen from by have := HI.out.1; have := c67.out; have := HR.out.2.2; unfold maxLen; omega)
            clear hkl w1_ w2_ HTS HWS
            by_cases c10 : (lkS T (⟨(rd_T82 l0 i).f1, (rd_T82 l0 i).f2, (rd_T82 l0 i).f3⟩ : SKy)).isSome = true
            · rw [if_pos c10] at H
              obtain rfl := Option.some.inj H
              clear H
              go_wp2_with (first | (go_at_call 91; (with_reducible refine (impl_Slot_key.calls (rd_T82 l0 i).f0 (rd_T82 l0 i).f1 (rd_T82 l0 i).f2 (rd_T82 l0 i).f3 _ _ _ _ rfl).mono ?_); rintro e w6 ⟨rfl, hb6⟩; have n0_ := Aside0.mk (below_step (by repeat (first | (with_reducible first | exact HB.out | apply below_alloc | apply pw_below_drewN | apply below_drew1) | exact HB.out)) hb6); have n1_ := Aside0.mk (blk_below (by (with_reducible repeat (first | refine blk_drewN ?_ _ | refine blk_drew ?_ | refine blk_alloc ?_ _)); exact BX.out) hb6); have n2_ := Aside0.mk (OMap.block HM.out (hb6.block _ (show w.heap.size < w5.heap.size from HZ.out))); have n3_ := Aside0.mk (Nat.lt_of_lt_of_le (show w.heap.size < w5.heap.size from HZ.out) hb6.size); clear HB BX HM HZ; have HB := n0_; have BX := n1_; have HM := n2_; have HZ := n3_; clear n0_ n1_ n2_ n3_; have kq0 := (blk_cell BX.out 0).trans (show ((#[.int .i64 (rd_T82 l0 i).f0, .int .i64 (rd_T82 l0 i).f1, .int .i64 (rd_T82 l0 i).f2, .bool (rd_T82 l0 i).f3] : Array Value))[0]? = some (Value.int .i64 (rd_T82 l0 i).f0) from rfl); have kq1 := (blk_cell BX.out 1).trans (show ((#[.int .i64 (rd_T82 l0 i).f0, .int .i64 (rd_T82 l0 i).f1, .int .i64 (rd_T82 l0 i).f2, .bool (rd_T82 l0 i).f3] : Array Value))[1]? = some (Value.int .i64 (rd_T82 l0 i).f1) from rfl); have kq2 := (blk_cell BX.out 2).trans (show ((#[.int .i64 (rd_T82 l0 i).f0, .int .i64 (rd_T82 l0 i).f1, .int .i64 (rd_T82 l0 i).f2, .bool (rd_T82 l0 i).f3] : Array Value))[2]? = some (Value.int .i64 (rd_T82 l0 i).f2) from rfl); have kq3 := (blk_cell BX.out 3).trans (show ((#[.int .i64 (rd_T82 l0 i).f0, .int .i64 (rd_T82 l0 i).f1, .int .i64 (rd_T82 l0 i).f2, .bool (rd_T82 l0 i).f3] : Array Value))[3]? = some (Value.bool (rd_T82 l0 i).f3) from rfl)) | (at_lookup; refine wpList_lookup_omap_ok (T := 108) rfl _ _ rfl sk_law Try.underlying108 Try.underlying3 sk_zero rfl HM.out (⟨(rd_T82 l0 i).f1, (rd_T82 l0 i).f2, (rd_T82 l0 i).f3⟩ : SKy) rfl HKL.out ?_))
              go_ret
              exact ⟨rfl, HB.out⟩
            · rw [if_neg c10] at H
              have H' := Aside0.mk H
              have c10b : (lkS T (⟨(rd_T82 l0 i).f1, (rd_T82 l0 i).f2, (rd_T82 l0 i).f3⟩ : SKy)).isSome = false := by simpa using c10
              clear H c10
              go_upto_region 12 with (first | (go_at_call 91; (with_reducible refine (impl_Slot_key.calls (rd_T82 l0 i).f0 (rd_T82 l0 i).f1 (rd_T82 l0 i).f2 (rd_T82 l0 i).f3 _ _ _ _ rfl).mono ?_); rintro e w6 ⟨rfl, hb6⟩; have n0_ := Aside0.mk (below_step (by repeat (first | (with_reducible first | exact HB.out | apply below_alloc | apply pw_below_drewN | apply below_drew1) | exact HB.out)) hb6); have n1_ := Aside0.mk (blk_below (by (with_reducible repeat (first | refine blk_drewN ?_ _ | refine blk_drew ?_ | refine blk_alloc ?_ _)); exact BX.out) hb6); have n2_ := Aside0.mk (OMap.block HM.out (hb6.block _ (show w.heap.size < w5.heap.size from HZ.out))); have n3_ := Aside0.mk (Nat.lt_of_lt_of_le (show w.heap.size < w5.heap.size from HZ.out) hb6.size); clear HB BX HM HZ; have HB := n0_; have BX := n1_; have HM := n2_; have HZ := n3_; clear n0_ n1_ n2_ n3_; have kq0 := (blk_cell BX.out 0).trans (show ((#[.int .i64 (rd_T82 l0 i).f0, .int .i64 (rd_T82 l0 i).f1, .int .i64 (rd_T82 l0 i).f2, .bool (rd_T82 l0 i).f3] : Array Value))[0]? = some (Value.int .i64 (rd_T82 l0 i).f0) from rfl); have kq1 := (blk_cell BX.out 1).trans (show ((#[.int .i64 (rd_T82 l0 i).f0, .int .i64 (rd_T82 l0 i).f1, .int .i64 (rd_T82 l0 i).f2, .bool (rd_T82 l0 i).f3] : Array Value))[1]? = some (Value.int .i64 (rd_T82 l0 i).f1) from rfl); have kq2 := (blk_cell BX.out 2).trans (show ((#[.int .i64 (rd_T82 l0 i).f0, .int .i64 (rd_T82 l0 i).f1, .int .i64 (rd_T82 l0 i).f2, .bool (rd_T82 l0 i).f3] : Array Value))[2]? = some (Value.int .i64 (rd_T82 l0 i).f2) from rfl); have kq3 := (blk_cell BX.out 3).trans (show ((#[.int .i64 (rd_T82 l0 i).f0, .int .i64 (rd_T82 l0 i).f1, .int .i64 (rd_T82 l0 i).f2, .bool (rd_T82 l0 i).f3] : Array Value))[3]? = some (Value.bool (rd_T82 l0 i).f3) from rfl)) | (at_lookup; refine wpList_lookup_omap_ok (T := 108) rfl _ _ rfl sk_law Try.underlying108 Try.underlying3 sk_zero rfl HM.out (⟨(rd_T82 l0 i).f1, (rd_T82 l0 i).f2, (rd_T82 l0 i).f3⟩ : SKy) rfl HKL.out ?_))
              clear kk0 kk1 kk2 kk3
              go_region_held3 (fun w' => w'.cell? ⟨gx, 0, none⟩ = some (.int .i64 (rd_T82 l0 i).f0) ∧ w'.cell? ⟨gx, 1, none⟩ = some (.int .i64 (rd_T82 l0 i).f1) ∧ w'.cell? ⟨gx, 2, none⟩ = some (.int .i64 (rd_T82 l0 i).f2) ∧ w'.cell? ⟨gx, 3, none⟩ = some (.bool (rd_T82 l0 i).f3)) (first | exact ⟨(blk_cell (by (with_reducible repeat (first | refine blk_drewN ?_ _ | refine blk_drew ?_ | refine blk_alloc ?_ _)); exact BX.out) 0).trans rfl, (blk_cell (by (with_reducible repeat (first | refine blk_drewN ?_ _ | refine blk_drew ?_ | refine blk_alloc ?_ _)); exact BX.out) 1).trans rfl, (blk_cell (by (with_reducible repeat (first | refine blk_drewN ?_ _ | refine blk_drew ?_ | refine blk_alloc ?_ _)); exact BX.out) 2).trans rfl, (blk_cell (by (with_reducible repeat (first | refine blk_drewN ?_ _ | refine blk_drew ?_ | refine blk_alloc ?_ _)); exact BX.out) 3).trans rfl⟩ | exact ⟨(blk_cell BX7.out 0).trans rfl, (blk_cell BX7.out 1).trans rfl, (blk_cell BX7.out 2).trans rfl, (blk_cell BX7.out 3).trans rfl⟩ | go_keep) (first | (go_at_call 91; (with_reducible refine (impl_Slot_key.calls (rd_T82 l0 i).f0 (rd_T82 l0 i).f1 (rd_T82 l0 i).f2 (rd_T82 l0 i).f3 _ _ _ _ rfl).mono ?_); rintro e w7 ⟨rfl, hb7⟩; have n0_ := Aside0.mk (below_step (by repeat (first | (with_reducible first | exact HB.out | apply below_alloc | apply pw_below_drewN | apply below_drew1) | exact HB.out)) hb7); have n1_ := Aside0.mk (blk_below (by (with_reducible repeat (first | refine blk_drewN ?_ _ | refine blk_drew ?_ | refine blk_alloc ?_ _)); exact BX.out) hb7); have n2_ := Aside0.mk (OMap.block HM.out (hb7.block _ (show w.heap.size < w6.heap.size from HZ.out))); have n3_ := Aside0.mk (Nat.lt_of_lt_of_le (show w.heap.size < w6.heap.size from HZ.out) hb7.size); clear HB BX HM HZ; have HB := n0_; have BX := n1_; have HM := n2_; have HZ := n3_; clear n0_ n1_ n2_ n3_; have kr0 := (blk_cell BX.out 0).trans (show ((#[.int .i64 (rd_T82 l0 i).f0, .int .i64 (rd_T82 l0 i).f1, .int .i64 (rd_T82 l0 i).f2, .bool (rd_T82 l0 i).f3] : Array Value))[0]? = some (Value.int .i64 (rd_T82 l0 i).f0) from rfl); have kr1 := (blk_cell BX.out 1).trans (show ((#[.int .i64 (rd_T82 l0 i).f0, .int .i64 (rd_T82 l0 i).f1, .int .i64 (rd_T82 l0 i).f2, .bool (rd_T82 l0 i).f3] : Array Value))[1]? = some (Value.int .i64 (rd_T82 l0 i).f1) from rfl); have kr2 := (blk_cell BX.out 2).trans (show ((#[.int .i64 (rd_T82 l0 i).f0, .int .i64 (rd_T82 l0 i).f1, .int .i64 (rd_T82 l0 i).f2, .bool (rd_T82 l0 i).f3] : Array Value))[2]? = some (Value.int .i64 (rd_T82 l0 i).f2) from rfl); have kr3 := (blk_cell BX.out 3).trans (show ((#[.int .i64 (rd_T82 l0 i).f0, .int .i64 (rd_T82 l0 i).f1, .int .i64 (rd_T82 l0 i).f2, .bool (rd_T82 l0 i).f3] : Array Value))[3]? = some (Value.bool (rd_T82 l0 i).f3) from rfl); obtain ⟨w8, hst, hm8, hg8⟩ := OMap.store HM.out sk_law skV_inj Try.underlying108 Try.underlying3 HN.out HKL.out HWF.out; have HM8 := Aside0.mk hm8; have HB8 := Aside0.mk (HB.out.grown hg8 (Nat.le_of_lt HZ.out) (fun g e => by cases e; exact Nat.le_refl _)); have BX7 := Aside0.mk ((hg8.block gx (blk_lt BX.out) (by intro e; have h1_ := HG.out; injection e with e; omega)).trans BX.out); clear hm8 hg8; simp only [skV] at hst))
              go_wp2
              go_roundg k1
              case measure => have := HK1.out; omega
              case rel => exact ⟨wrap64 (i + 1), ((⟨(rd_T82 l0 i).f1, (rd_T82 l0 i).f2, (rd_T82 l0 i).f3⟩ : SKy), (rd_T82 l0 i).f0) :: T, rfl, H', ⟨by have := HK1.out; omega⟩, ⟨HM8.out⟩, ⟨by have := HI.out.1; have := c67.out; have := HR.out.2.2; rw [List.length_cons]; unfold wrap64; omega, lkS_push HI.out.2.1 (by simpa using c10b), fun p hp => by rcases List.mem_cons.1 hp with rfl | hp; exact HW12.out; exact HI.out.2.2 p hp⟩, HB8⟩
        · rw [if_neg c7] at H
          exact absurd H (by simp)
      · rw [if_neg c6] at H
        have c6b0 : decide (i < (l0.length : Int)) = false := decide_eq_false c6
        obtain rfl := Option.some.inj H
        clear c6 H
        have HT_ := Aside0.mk HI.out.2
        have HZ := Aside0.mk (OMap.lt HM.out)
        clear HI HK1
        go_wp2_with (first | (at_range; refine wpList_range_omap (T := 108) rfl _ rfl sk_law Try.underlying108 rfl HM.out ?_; intro w1 hrg hg hs))
        go_frame
        have B1 := Aside0.mk (HB.out.grown hg (Nat.le_of_lt HZ.out) (fun g e => by cases e))
        have R1 := Aside0.mk hrg
        obtain ⟨rr, hrr⟩ : ∃ rr, rr = wr.heap.size := ⟨_, rfl⟩
        have G1 := Aside0.mk (show w.heap.size < rr from by have := HZ.out; rw [hrr]; exact this)
        have G2 := Aside0.mk (show rr < w1.heap.size from by rw [hrr, hs]; omega)
        rw [← hrr] at R1 ⊢
        clear hrg hg hs hrr HM HB
        go_loopw [13] (fun _ wq => ∃ left : SKy → Prop, Aside0 (ORng Try.prog 112 3 skV wq w.heap.size rr T.length (lkS T) left) ∧ Aside0 (Below w.heap.size w wq) ∧ Aside0 (rr < wq.heap.size) ∧ Aside0 (∀ x c, lkS T x = some c → okS x → ¬ left x → badS T a1 (x, c) = false)) (fun _ wq => wq.rangeLeft w.heap.size rr)
        case atStart => exact ⟨_, R1, B1, G2, ⟨fun x c hx _ hn => absurd (by rw [hx]; rfl) hn⟩⟩
        case round =>
          clear R1 B1 G2
          obtain ⟨left, HRG, HB, HQ, HD⟩ := hrel
          go_wp2_with (first | (at_next; refine wpList_next_omap rfl _ rfl sk_law Try.underlying3 okS (fun v kl h => sk_inv h) (fun x h => sk_key x h.1 h.2) skV_inj rfl HRG.out ?_ ?_))
          · intro hd
            have hr : (T.all fun p => !badS T a1 p) = true := by
              refine List.all_eq_true.2 fun p hp => ?_
              have h1 := HT_.out.1 p hp
              have h2 := HT_.out.2 p hp
              have := HD.out p.1 p.2 h1 h2 (hd p.1 h2)
              rw [show (p.1, p.2) = p from rfl] at this
              rw [this]
              rfl
            have HRr := Aside0.mk hr
            clear hr hd
            go_wp2
            go_ret
            exact ⟨by rw [HRr.out]; rfl, HB.out⟩
          · intro x c w1 hx hlx hfx hrg hlt hg hs hen
            obtain ⟨x0, x1, x2⟩ := x
            have HX := Aside0.mk (And.intro hx (And.intro hlx hfx))
            have HL := Aside0.mk hlt
            have n0_ := Aside0.mk (HB.out.grown hg (Nat.le_of_lt (Nat.lt_trans G1.out HQ.out)) (fun g e => by cases e; exact Nat.le_of_lt G1.out))
            have n1_ := Aside0.mk (show rr < w1.heap.size from by rw [hs]; exact HQ.out)
            have HS := Aside0.mk hrg
            clear HB HQ hx hlx hfx hrg hlt hg hs
            have HB := n0_
            have HQ := n1_
            clear n0_ n1_
            simp only [skV] at hen ⊢
            go_upto_region 17 with (fail)
            obtain ⟨y0, y1, y2, yk, hy⟩ : ∃ y0 y1 y2 yk, aheadT x0 x1 x2 a1 = (y0, y1, y2, yk) := ⟨_, _, _, _, rfl⟩
            have AH := Aside0.mk (show impl_slotKey_ahead.f x0 x1 x2 a1 = some (y0, y1, y2, yk) from by rw [aheadT_eq, hy])
            have hwf := aheadT_wf (a2 := x2) (s := a1) HX.out.1.1 HX.out.1.2
            rw [hy] at hwf
            obtain ⟨kl, hkl⟩ := sk_key ⟨y0, y1, y2⟩ hwf.1 hwf.2
            have HKL := Aside0.mk hkl
            have HY := Aside0.mk hy
            clear hkl hwf hy
            go_upto_region 18 with (first | (go_at_call 92; (with_reducible refine (impl_slotKey_ahead.calls x0 x1 x2 a1 y0 y1 y2 yk _ AH.out).mono ?_); rintro e w4 ⟨rfl, hb4⟩; have n0_ := Aside0.mk (below_step (by repeat (first | (with_reducible first | exact HB.out | apply below_alloc | apply pw_below_drewN | apply below_drew1) | exact HB.out)) hb4); have n1_ := Aside0.mk (ORng.far HS.out G1.out (fun g hg => (hb4.block g (by have := HQ.out; simp; omega)).trans (Below.heap_alloc w1 _ g (by have := HQ.out; omega)))); have n2_ := Aside0.mk (show rr < w4.heap.size from Nat.lt_of_lt_of_le HQ.out (Nat.le_trans (by simp) hb4.size)); clear HB HS HQ hb4; have HB := n0_; have HS := n1_; have HQ := n2_; clear n0_ n1_ n2_))
            have S5 := ORng.far HS.out.1 G1.out (w' := w4.alloc (.cells #[.int .i64 y0, .int .i64 y1, .bool y2] 112)) (fun g hg => Below.heap_alloc w4 _ g (by have := HQ.out; omega))
            have n0_ := Aside0.mk S5.1
            have HL2 := Aside0.mk (show (w4.alloc (.cells #[.int .i64 y0, .int .i64 y1, .bool y2] 112)).rangeLeft w.heap.size rr < wr.rangeLeft w.heap.size rr from by rw [S5.2, HS.out.2]; exact HL.out)
            have n1_ := Aside0.mk (show Below w.heap.size w (w4.alloc (.cells #[.int .i64 y0, .int .i64 y1, .bool y2] 112)) from below_alloc HB.out _)
            have n2_ := Aside0.mk (show rr < (w4.alloc (.cells #[.int .i64 y0, .int .i64 y1, .bool y2] 112)).heap.size from by have := HQ.out; simp; omega)
            have BY := Aside0.mk (heap_alloc_new w4 (.cells #[.int .i64 y0, .int .i64 y1, .bool y2] 112))
            clear S5 HS HB HQ HL
            have HS := n0_
            have HB := n1_
            have HQ := n2_
            clear n0_ n1_ n2_
            obtain ⟨w5, hw5⟩ : ∃ w5, w5 = w4.alloc (.cells #[.int .i64 y0, .int .i64 y1, .bool y2] 112) := ⟨_, rfl⟩
            rw [← hw5] at HS HB HQ HL2 BY ⊢
            clear hw5
            cases yk with
            | false =>
              go_wp2
              go_roundw
              case rel => exact ⟨_, HS, HB, HQ, ⟨rngStep HX.out.2.2 HD.out (by simp only [badS, HY.out]; rfl)⟩⟩
              case measure => exact HL2.out
            | true =>
              have by0 := (blk_cell BY.out 0).trans (show (#[.int .i64 y0, .int .i64 y1, .bool y2] : Array Value)[0]? = some (.int .i64 y0) from rfl)
              have by1 := (blk_cell BY.out 1).trans (show (#[.int .i64 y0, .int .i64 y1, .bool y2] : Array Value)[1]? = some (.int .i64 y1) from rfl)
              have by2 := (blk_cell BY.out 2).trans (show (#[.int .i64 y0, .int .i64 y1, .bool y2] : Array Value)[2]? = some (.bool y2) from rfl)
              by_cases c1 : (lkS T ⟨y0, y1, y2⟩).getD 0 ≥ c
              · have c1b : decide ((lkS T ⟨y0, y1, y2⟩).getD 0 ≥ c) = true := decide_eq_true c1
                have hr : (T.all fun p => !badS T a1 p) = false := by
                  refine List.all_eq_false.2 ⟨(⟨x0, x1, x2⟩, c), lkS_mem HX.out.2.2, ?_⟩
                  simp only [badS, HY.out]
                  simp [c1]
                have HRr := Aside0.mk hr
                clear hr c1
                go_wp2_with (first | (at_lookup; (try (refine gate_guard (by rfl) ?_; dsimp only)); refine wpList_lookup_omap (T := 108) rfl _ _ rfl sk_law Try.underlying108 Try.underlying3 sk_zero rfl HS.out.owns ⟨y0, y1, y2⟩ rfl HKL.out ?_))
                go_ret
                exact ⟨by rw [HRr.out]; rfl, HB.out⟩
              · have c1b : decide ((lkS T ⟨y0, y1, y2⟩).getD 0 ≥ c) = false := decide_eq_false c1
                have C1 := Aside0.mk c1
                clear c1
                go_wp2_with (first | (at_lookup; (try (refine gate_guard (by rfl) ?_; dsimp only)); refine wpList_lookup_omap (T := 108) rfl _ _ rfl sk_law Try.underlying108 Try.underlying3 sk_zero rfl HS.out.owns ⟨y0, y1, y2⟩ rfl HKL.out ?_))
                go_roundw
                case rel => exact ⟨_, HS, HB, HQ, ⟨rngStep HX.out.2.2 HD.out (by simp only [badS, HY.out]; simpa using C1.out)⟩⟩
                case measure => exact HL2.out
end
section
set_option maxHeartbeats 4000000 in
set_option maxRecDepth 100000 in
theorem sok_no1 (A0 : Option Addr) (c0 : Nat) (l0 : List S82) (a1 a2 : Int) (w : World) (ht : impl_stagesOk.f a1 a2 = some false) :
    Calls Try.prog 69 #[.slice A0 l0.length c0, .int .i64 a1, .int .i64 a2] w fun e w' => e = .returned (.bool false) ∧ Below w.heap.size w w' := by
  have HT := Aside0.mk ht
  clear ht
  go_enter Try.func69, Try.ntmps69
  go_wp2_with (first | (go_at_call 89; (with_reducible refine (impl_stagesOk.calls a1 a2 false _ HT.out).mono ?_); rintro e w' ⟨rfl, ⟨nd, rfl⟩⟩))
  go_ret
  exact ⟨rfl, pw_below_drewN (Below.refl _ w) nd⟩
set_option maxHeartbeats 4000000 in
set_option maxRecDepth 100000 in
theorem sok_no2 (A0 : Option Addr) (c0 : Nat) (l0 : List S82) (a1 a2 : Int) (w : World) (ht : impl_stagesOk.f a1 a2 = some true) (he : ¬ (l0.length : Int) = wrap64 (wrap64 (2 * a1) * a2)) :
    Calls Try.prog 69 #[.slice A0 l0.length c0, .int .i64 a1, .int .i64 a2] w fun e w' => e = .returned (.bool false) ∧ Below w.heap.size w w' := by
  have HT := Aside0.mk ht
  have e1 : ((l0.length : Int) != wrap64 (wrap64 (2 * a1) * a2)) = true := bne_iff_ne.mpr he
  clear ht he
  go_enter Try.func69, Try.ntmps69
  go_wp2_with (first | (go_at_call 89; (with_reducible refine (impl_stagesOk.calls a1 a2 true _ HT.out).mono ?_); rintro e w' ⟨rfl, ⟨nd, rfl⟩⟩))
  go_ret
  exact ⟨rfl, pw_below_drewN (Below.refl _ w) nd⟩
end

set_option maxHeartbeats 8000000 in
set_option maxRecDepth 100000 in
theorem impl_SlotsOk.calls (k : Nat) (A0 : Option Addr) (c0 : Nat) (l0 : List (S82)) (a1 : Int) (a2 : Int) (r : Bool) (w : World) (hr0 : Kd.C k82 w A0 l0.length l0) (hc0 : l0.length ≤ c0) (h : impl_SlotsOk.f k l0 a1 a2 = some r) :
    Calls Try.prog 69 #[.slice A0 l0.length c0, .int .i64 a1, .int .i64 a2] w fun e w' => e = .returned (.bool r) ∧ Below w.heap.size w w' := by
  unfold impl_SlotsOk.f at h
  obtain ⟨t, ht, h⟩ := Option.bind_eq_some_iff.mp h
  cases t with
  | false =>
    rw [if_neg (by simp)] at h
    obtain rfl := Option.some.inj h
    exact sok_no1 _ _ _ _ _ w ht
  | true =>
    rw [if_pos rfl] at h
    by_cases c1 : (l0.length : Int) = wrap64 (wrap64 (2 * a1) * a2)
    · rw [if_pos c1] at h
      by_cases c2 : l0.length ≤ 35184372088832
      · rw [if_pos c2] at h
        exact sok_walk k _ _ l0 a1 a2 r w hr0 hc0 c2 ht c1 h
      · rw [if_neg c2] at h
        cases h
    · rw [if_neg c1] at h
      obtain rfl := Option.some.inj h
      exact sok_no2 _ _ _ _ _ w ht c1

end Go.Proofs.Ytpoblnigmfbnfac.PFnExactSlotCost
