-- Printed out of the translation, hand-written contracts beside it; checked by the kernel alone.
import Derived.Test.YtpoblnigmfbnfacPFnExactFinishx0
import Derived.Test.YtpoblnigmfbnfacPFnExactFinishx4
namespace Go.Proofs.Ytpoblnigmfbnfac.PFnExactFinish
open Go.RowKit Go.Proofs.YtpoblnigmfbnfacW.PrintWords Go.Proofs.YtpoblnigmfbnfacW.PrintLast Go.Proofs.YtpoblnigmfbnfacW.PrintMore
attribute [local go_sem] max2_int min2_int max_two min_two max_three min_three max_four min_four   -- for this text's walks alone
set_option linter.unusedVariables false
set_option linter.unusedSimpArgs false

/-! ### impl_MovesOk: function 74 -/
/-! the key: a struct of two whole numbers -/
structure PKy where
  a : Int
  b : Int
instance : DecidableEq PKy := fun x y => decidable_of_iff (x.a = y.a ∧ x.b = y.b) ⟨fun ⟨h1, h2⟩ => by cases x; cases y; simp at h1 h2; rw [h1, h2], fun h => by rw [h]; exact ⟨rfl, rfl⟩⟩
def rdM (xs : List (List S92)) (i : Int) : List S92 := xs.getD i.toNat []
def badM (r : List S92) (n c : Int) (T : List PKy) (j : Int) : Option Bool := (impl_within.f (rd_T92 r j).f0 0 (wrap64 (n - 1))).bind fun b1 => if b1 = true then ((impl_within.f (rd_T92 r j).f1 0 (wrap64 (n - 1))).bind fun b2 => if b2 = true then (if (rd_T92 r j).f0 = (rd_T92 r j).f1 then some true else ((impl_within.f (rd_T92 r j).f2 0 (wrap64 (c - 1))).bind fun b3 => if b3 = true then some (decide ((⟨(rd_T92 r j).f1, (rd_T92 r j).f2⟩ : PKy) ∈ T)) else some true)) else some true) else some true
def mvL : Nat → List S92 → Int → Int → List PKy → Int → Option Bool
  | 0, _, _, _, _, _ => none
  | k + 1, r, n, c, T, j => if j < (r.length : Int) then (if 0 ≤ j then ((badM r n c T j).bind fun b => if b = true then some false else mvL k r n c ((⟨(rd_T92 r j).f1, (rd_T92 r j).f2⟩ : PKy) :: T) (wrap64 (j + 1))) else none) else some true
def mvO : Nat → List (List S92) → Int → Int → Int → Int → Option Bool
  | 0, _, _, _, _, _ => none
  | k + 1, l, n, c, s, i => if i < (l.length : Int) then (if 0 ≤ i then (if wrap64 (s + ((rdM l i).length : Int)) > 5000 then some false else (if (rdM l i).length ≤ 35184372088832 then ((mvL k (rdM l i) n c [] 0).bind fun b => if b = true then mvO k l n c (wrap64 (s + ((rdM l i).length : Int))) (wrap64 (i + 1)) else some false) else none)) else none) else some true
theorem mvL_mono : ∀ k, (∀ y0 y1 y2 y3 y4, LeO (mvL k y0 y1 y2 y3 y4) (mvL (k + 1) y0 y1 y2 y3 y4))
  | 0 => fun _ _ _ _ _ r h => by simp [mvL] at h
  | k + 1 => by
    have ih0 := mvL_mono k
    intro y0 y1 y2 y3 y4
    unfold mvL
    repeat' first
    | (with_reducible exact ih0 _ _ _ _ _)
    | (with_reducible exact LeO.refl _)
    | (with_reducible exact LeO.none _)
    | (with_reducible refine LeO.ite ?_ ?_)
    | (with_reducible refine LeO.bind ?_ (fun _ => ?_))
theorem mvO_mono : ∀ k, (∀ y0 y1 y2 y3 y4, LeO (mvO k y0 y1 y2 y3 y4) (mvO (k + 1) y0 y1 y2 y3 y4))
  | 0 => fun _ _ _ _ _ r h => by simp [mvO] at h
  | k + 1 => by
    have ih0 := mvO_mono k
    intro y0 y1 y2 y3 y4
    unfold mvO
    repeat' first
    | (with_reducible exact ih0 _ _ _ _ _)
    | (with_reducible exact mvL_mono _ _ _ _ _ _)
    | (with_reducible exact LeO.refl _)
    | (with_reducible exact LeO.none _)
    | (with_reducible refine LeO.ite ?_ ?_)
    | (with_reducible refine LeO.bind ?_ (fun _ => ?_))
def impl_MovesOk.f (k : Nat) (l0 : List (List S92)) (a1 : Int) (a2 : Int) : Option Bool := (impl_within.f a1 1 64).bind fun b1 => if b1 = true then ((impl_within.f a2 1 64).bind fun b2 => if b2 = true then (if (l0.length : Int) > 300 then some false else mvO k l0 a1 a2 0 0) else some false) else some false
theorem impl_MovesOk.mono : ∀ a0 a1 a2 k, LeO (impl_MovesOk.f k a0 a1 a2) (impl_MovesOk.f (k + 1) a0 a1 a2) := by
  intro a0 a1 a2 k
  unfold impl_MovesOk.f
  repeat' first
      | (with_reducible exact mvO_mono _ _ _ _ _ _)
      | (with_reducible exact LeO.refl _)
      | (with_reducible exact LeO.none _)
      | (with_reducible refine LeO.ite ?_ ?_)
      | (with_reducible refine LeO.bind ?_ (fun _ => ?_))

section
open Go.Maps
/-- Block b is a map of at most n entries that holds, at the key that 'enc x' spells, what 'f x' tells. -/
def OMap {κ : Type} (P : Program) (K E : TypeId) (enc : κ → Value) (w : World) (b n : Nat) (f : κ → Option Int) : Prop :=
  ∃ D : DataW Unit, w.ownsMap P K (plainElem P E) b n D ∧ ∀ x kl, keyOf P K (enc x) = some kl → Maps.has D kl = (f x).isSome ∧ ∀ c, f x = some c → ∀ z, D.atKey kl z = .lit (.int .i64 c)
def updF {κ : Type} [DecidableEq κ] (f : κ → Option Int) (x : κ) (c : Int) : κ → Option Int := fun y => if y = x then some c else f y
variable {κ : Type} {P : Program} {K E T : TypeId} {enc : κ → Value} {w : World} {b n : Nat} {f : κ → Option Int}
theorem OMap.made (w : World) : OMap P K E enc (w.alloc (.map #[] 0)) w.heap.size 0 (fun _ => none) :=
  ⟨_, World.ownsMap_made w P K (plainElem P E), fun x kl _ => ⟨rfl, fun c h => by cases h⟩⟩
theorem OMap.kept {w' : World} {row : Option Nat} (h : OMap P K E enc w b n f) (hg : w.grownBy w' row) (hne : some b ≠ row) : OMap P K E enc w' b n f := by
  obtain ⟨D, h1, h2⟩ := h
  exact ⟨D, h1.kept hg hne, h2⟩
theorem OMap.block {w' : World} (h : OMap P K E enc w b n f) (hb : w'.heap[b]? = w.heap[b]?) : OMap P K E enc w' b n f := by
  obtain ⟨D, ⟨es, cl, h0, h1⟩, h2⟩ := h
  exact ⟨D, ⟨es, cl, hb.trans h0, h1⟩, h2⟩
theorem OMap.lt (h : OMap P K E enc w b n f) : b < w.heap.size := by
  obtain ⟨D, h1, h2⟩ := h
  exact h1.lt
theorem OMap.mono {n' : Nat} (h : OMap P K E enc w b n f) (hn : n ≤ n') : OMap P K E enc w b n' f := by
  obtain ⟨D, h1, h2⟩ := h
  exact ⟨D, h1.mono hn, h2⟩
theorem OMap.look (h : OMap P K E enc w b n f) (L : Keyed P K) (ht : P.underlying T = some (.map K E)) (he : P.underlying E = some (.int .i64)) (hz : ∀ w : World, (zeroValue E).run P w = .ok (.int .i64 0) w) {x : κ} {kl : Lit} (hk : keyOf P K (enc x) = some kl) :
    (Instr.lookup T (.map (some b)) (enc x) false).run P w = .ok (.int .i64 ((f x).getD 0)) w := by
  obtain ⟨D, h1, h2⟩ := h
  obtain ⟨c, hr, hc, hw⟩ := h1.lookup_int L ht he (hz w) hk
  obtain ⟨h3, h4⟩ := h2 x kl hk
  rw [hr]
  cases hx : f x with
  | none =>
    rw [hx] at h3
    rw [atKey_of_not_has (by simpa using h3)] at hc
    cases hc
    rfl
  | some d =>
    rw [h4 d hx] at hc
    cases hc
    rfl
theorem OMap.lookOk (h : OMap P K E enc w b n f) (L : Keyed P K) (ht : P.underlying T = some (.map K E)) (he : P.underlying E = some (.int .i64)) (hz : ∀ w : World, (zeroValue E).run P w = .ok (.int .i64 0) w) {x : κ} {kl : Lit} (hk : keyOf P K (enc x) = some kl) :
    (Instr.lookup T (.map (some b)) (enc x) true).run P w = .ok (.tuple #[.int .i64 ((f x).getD 0), .bool (f x).isSome]) w := by
  obtain ⟨D, h1, h2⟩ := h
  obtain ⟨v, ps, hr, hv⟩ := h1.look_ok L ht (hz w) (plainElem_int he (a := 0) (by decide)) hk
  obtain ⟨h3, h4⟩ := h2 x kl hk
  obtain ⟨c, rfl, hc, hw⟩ := plainElem_int_inv he hv
  rw [hr, h3]
  cases hx : f x with
  | none =>
    rw [hx] at h3
    rw [atKey_of_not_has (by simpa using h3)] at hc
    cases hc
    rfl
  | some d =>
    rw [h4 d hx] at hc
    cases hc
    rfl
theorem OMap.put [DecidableEq κ] {w' : World} {D : DataW Unit} (h2 : ∀ x kl, keyOf P K (enc x) = some kl → Maps.has D kl = (f x).isSome ∧ ∀ c, f x = some c → ∀ z, D.atKey kl z = .lit (.int .i64 c)) (hD : IsMap D) (L : Keyed P K) (hi : ∀ x y, enc x = enc y → x = y) {x : κ} {kl : Lit} (hk : keyOf P K (enc x) = some kl) {c : Int}
    (h1 : w'.ownsMap P K (plainElem P E) b n (D.put kl (.lit (.int .i64 c)))) : OMap P K E enc w' b n (updF f x c) := by
  refine ⟨_, h1, fun y kl' hy => ?_⟩
  by_cases e : y = x
  · subst e
    rw [hk] at hy
    cases hy
    refine ⟨by rw [has_put_same hD (L.key hk)]; simp [updF], fun d hd z => ?_⟩
    rw [atKey_put_same hD (L.key hk)]
    simp [updF] at hd
    rw [hd]
  · have hne : kl' ≠ kl := fun e1 => e (hi _ _ (L.inj (e1 ▸ hy) hk))
    rw [has_put_other hne]
    refine ⟨by simp only [updF, if_neg e]; exact (h2 y kl' hy).1, fun d hd z => ?_⟩
    rw [atKey_put_other hne]
    simp only [updF, if_neg e] at hd
    exact (h2 y kl' hy).2 d hd z
theorem OMap.store [DecidableEq κ] (h : OMap P K E enc w b n f) (L : Keyed P K) (hi : ∀ x y, enc x = enc y → x = y) (ht : P.underlying T = some (.map K E)) (he : P.underlying E = some (.int .i64)) (hn : n < maxLen) {x : κ} {kl : Lit} (hk : keyOf P K (enc x) = some kl) {c : Int} (hc : (Lit.int .i64 c).wf = true) :
    ∃ w', (Instr.mapUpdate T (.map (some b)) (enc x) (.int .i64 c)).run P w = .ok () w' ∧ OMap P K E enc w' b (n + 1) (updF f x c) ∧ w.grownBy w' (some b) := by
  obtain ⟨D, h1, h2⟩ := h
  obtain ⟨w', hr, ho, hg⟩ := h1.update L ht hn hk (plainElem_int he hc)
  exact ⟨w', hr, OMap.put h2 h1.isMap L hi hk ho, hg⟩
end
section
open Go.Maps
variable {κ : Type} {P : Program} {K E T : TypeId} {enc : κ → Value} {w : World} {b n : Nat} {f : κ → Option Int}
theorem wpList_lookup_omap {ops : Array Oper} {rest : List Oper} {o : Oper} {a : Act} {Q : Exit → Act → World → Prop} (hg : o.guard = none) (m x : Operand) (hop : o.op = Op.lookup T m x false) (L : Keyed P K) (ht : P.underlying T = some (.map K E)) (he : P.underlying E = some (.int .i64)) (hz : ∀ w : World, (zeroValue E).run P w = .ok (.int .i64 0) w)
    (hm : a.eval m = .map (some b)) (h : OMap P K E enc w b n f) (y : κ) (hx : a.eval x = enc y) {kl : Lit} (hk : keyOf P K (enc y) = some kl)
    (hK : wpList P ops Q rest (a.put o.dst (.int .i64 ((f y).getD 0))) w) : wpList P ops Q (o :: rest) a w := by
  refine wpList_plain hg fun K' hK' => ?_
  unfold Oper.wp
  simp [execOp, hop, hm, hx, h.look L ht he hz hk, Result.andThen]
  exact hK' _ _ hK
theorem wpList_lookup_omap_ok {ops : Array Oper} {rest : List Oper} {o : Oper} {a : Act} {Q : Exit → Act → World → Prop} (hg : o.guard = none) (m x : Operand) (hop : o.op = Op.lookup T m x true) (L : Keyed P K) (ht : P.underlying T = some (.map K E)) (he : P.underlying E = some (.int .i64)) (hz : ∀ w : World, (zeroValue E).run P w = .ok (.int .i64 0) w)
    (hm : a.eval m = .map (some b)) (h : OMap P K E enc w b n f) (y : κ) (hx : a.eval x = enc y) {kl : Lit} (hk : keyOf P K (enc y) = some kl)
    (hK : wpList P ops Q rest (a.put o.dst (.tuple #[.int .i64 ((f y).getD 0), .bool (f y).isSome])) w) : wpList P ops Q (o :: rest) a w := by
  refine wpList_plain hg fun K' hK' => ?_
  unfold Oper.wp
  simp [execOp, hop, hm, hx, h.lookOk L ht he hz hk, Result.andThen]
  exact hK' _ _ hK
end
section
open Go.Maps Go.ChangeShapes Go.WideShapes Go.MapKept Go.ChangeMaps
variable {κ : Type} [DecidableEq κ] {P : Program} {K E T : TypeId} {enc : κ → Value} {w : World} {b n : Nat} {f : κ → Option Int}
theorem setBlock_self {es : Array MapEntry} {cl : Nat} (hb : w.heap[b]? = some (.map es cl)) : setBlock w b (.map es cl) = w := by
  have e : w.heap.setIfInBounds b (.map es cl) = w.heap := by
    apply Array.ext_getElem?
    intro i
    by_cases hi : i = b
    · subst hi
      exact (heap_setBlock_same hb _).trans hb.symm
    · exact heap_setBlock_other hb _ hi
  unfold setBlock
  rw [e]
theorem setBlock_twice (o o' : Obj) : setBlock (setBlock w b o) b o' = setBlock w b o' := by simp [setBlock]

theorem OMap.entry (h : OMap P K E enc w b n f) (L : WideMaps.KeyLaw P K) (hi : ∀ x y, enc x = enc y → x = y) (ht : P.underlying T = some (.map K E)) (he : P.underlying E = some (.int .i64)) (hz : ∀ w : World, (zeroValue E).run P w = .ok (.int .i64 0) w) (hn : n < maxLen) {x : κ} {kl : Lit} (hk : keyOf P K (enc x) = some kl) :
    ∃ (v0 : Value) (st : Nat) (w1 : World), (Instr.mapEntry T (.map (some b)) (enc x)).run P w = .ok (.tuple #[v0, .int .i64 st]) w1 ∧ (Instr.lookup T (.map (some b)) (enc x) false).run P w1 = .ok (.int .i64 ((f x).getD 0)) w1 ∧ w.grownBy w1 (some b) ∧
      ∀ c : Int, (Lit.int .i64 c).wf = true → ∃ w2, (Instr.entryStore T (.map (some b)) (.int .i64 st) (.int .i64 c)).run P w1 = .ok () w2 ∧ OMap P K E enc w2 b (n + 1) (updF f x c) ∧ w.grownBy w2 (some b) := by
  have K' := Keyed.of_law L
  obtain ⟨D, ⟨es, cl, hb, F, hs, hD⟩, h2⟩ := h
  have h : OMap P K E enc w b n f := ⟨D, ⟨es, cl, hb, F, hs, hD⟩, h2⟩
  obtain ⟨v0, st, es1, cl1, hrun, hor, hst⟩ := WideElems.entry_then_store L ht hz hb F hk
  have hb1 : (setBlock w b (.map es1 cl1)).heap[b]? = some (.map es1 cl1) := heap_setBlock_same hb _
  have g1 : ∀ o : Obj, w.grownBy (setBlock w b o) (some b) := fun o => ⟨rfl, rfl, rfl, by simp [setBlock], fun i _ hi' => heap_setBlock_other hb _ (fun e => hi' (by rw [e]))⟩
  refine ⟨v0, st, setBlock w b (.map es1 cl1), hrun, ?_, g1 _, fun c hc => ?_⟩
  · -- the entry is there now, with what it held, or with nought
    rcases L.find w hk es.toList F.keys with ⟨q1, q2⟩ | ⟨j, e0, q1, q3, q4⟩
    · have r2 : (Instr.mapEntry T (.map (some b)) (enc x)).run P w = .ok (.tuple #[.int .i64 0, goInt cl]) (setBlock w b (.map (es.push ⟨enc x, .int .i64 0, cl⟩) (cl + 1))) := by
        simp [Instr.mapEntry, run_underlying ht, MapKept.run_getObj_map hb, L.check w false hk, q1, hz, MapKept.run_setObj_map _ hb, Result.andThen, setBlock]
      have r3 : (Instr.mapUpdate T (.map (some b)) (enc x) (.int .i64 0)).run P w = .ok () (setBlock w b (.map (es.push ⟨enc x, .int .i64 0, cl⟩) (cl + 1))) := by
        simp [Instr.mapUpdate, run_underlying ht, MapKept.run_getObj_map hb, L.check w false hk, q1, MapKept.run_setObj_map _ hb, Result.andThen, setBlock]
      rw [hrun] at r2
      have r5 := (Result.ok.inj r2).2
      rw [r5]
      obtain ⟨w', s1, s2, s3⟩ := h.store K' hi ht he hn hk (c := 0) (by decide)
      rw [r3] at s1
      have s5 := (Result.ok.inj s1).2
      rw [s5, s2.look K' ht he hz hk]
      have : f x = none := by
        have hl := h.look K' ht he hz hk
        cases hf : f x with
        | none => rfl
        | some d =>
          exfalso
          have h3 := (h2 x kl hk).1
          rw [hf] at h3
          rcases Maps.fit_look true K' ht (hz w) hb F hk with ⟨_, _, hat⟩ | ⟨e0, y, hm, hke, _⟩
          · rw [hD, Maps.has_false_of_atKey hat] at h3
            cases h3
          · exact q2 _ hm hke
      simp [updF, this]
    · have hj : es[j]? = some e0 := by simpa using q3
      have hsame : es.modify j (fun e => { e with key := enc x }) = es := by
        apply Array.ext'
        rw [Array.toList_modify, modify_eq_set _ _ _ _ q3]
        have : ({ e0 with key := enc x } : MapEntry) = e0 := by rw [← q4]
        rw [this]
        exact WideElems.set_self _ _ _ q3
      have r2 : (Instr.mapEntry T (.map (some b)) (enc x)).run P w = .ok (.tuple #[e0.val, goInt e0.born]) (setBlock w b (.map es cl)) := by
        simp [Instr.mapEntry, run_underlying ht, MapKept.run_getObj_map hb, L.check w false hk, q1, hj, q4, L.stays w hk, hsame, MapKept.run_setObj_map _ hb, Result.andThen, setBlock]
      rw [hrun] at r2
      have r5 := (Result.ok.inj r2).2
      rw [r5, setBlock_self hb]
      exact h.look K' ht he hz hk
  · obtain ⟨es', cl', t1, t2⟩ := hst (setBlock w b (.map es1 cl1)) (.int .i64 c) hb1
    obtain ⟨w', s1, s2, s3⟩ := h.store K' hi ht he hn hk hc
    rw [t2] at s1
    have s5 := (Result.ok.inj s1).2
    refine ⟨_, t1, ?_, ?_⟩
    · rw [setBlock_twice, s5]
      exact s2
    · rw [setBlock_twice]
      exact g1 _
end
section
set_option maxRecDepth 100000
open Go.Maps
def pkV (x : PKy) : Value := .agg #[.int .i64 x.a, .int .i64 x.b]
theorem pkV_inj (x y : PKy) (h : pkV x = pkV y) : x = y := by
  obtain ⟨a, b⟩ := x
  obtain ⟨a', b'⟩ := y
  simp [pkV] at h
  obtain ⟨rfl, rfl⟩ := h
  rfl
theorem pk_laid : laidOutB Try.prog = true := by kernel_rfl
theorem pk_row : (120 : TypeId) < Try.prog.types.size := of_decide_eq_true (by kernel_rfl)
theorem pk_wide : (match Try.prog.underlying 120 with | some (.array _ _) | some (.struct _) => true | _ => false) = true := by rw [Try.underlying120]
theorem pk_kt : Try.prog.keyType 120 = true := by kernel_rfl
theorem pk_law0 : WideMaps.KeyLaw Try.prog 120 := deep_law_laid pk_laid (m := 2) (by omega) pk_row (by kernel_rfl) pk_wide
theorem pk_law : Keyed Try.prog 120 := Keyed.of_law pk_law0
theorem pk_cells : Try.prog.cellsOf 120 = 2 := by kernel_rfl
theorem pk_cells3 : Try.prog.cellsOf 3 = 1 := by kernel_rfl
theorem pk_size : ∃ n, Try.prog.types.size + 1 = n + 2 := ⟨Try.prog.types.size - 1, by have h : 0 < Try.prog.types.size := Nat.lt_of_le_of_lt (Nat.zero_le _) pk_row; omega⟩
theorem pk_zero (w : World) : (zeroValue 3).run Try.prog w = .ok (.int .i64 0) w := by kernel_rfl
theorem pk_key (x : PKy) (h1 : (Lit.int .i64 x.a).wf = true) (h2 : (Lit.int .i64 x.b).wf = true) : ∃ kl, keyOf Try.prog 120 (pkV x) = some kl := by
  obtain ⟨n, hn⟩ := pk_size
  unfold keyOf
  simp only [Try.underlying120]
  rw [if_pos (by simp [pk_kt, pkV, Value.formed, Try.underlying120, pk_cells]), hn]
  unfold Program.keyLits
  simp only [Try.underlying120, pkV, Value.cells]
  rw [if_pos (by rw [pk_cells]; exact ⟨rfl, by kernel_rfl⟩)]
  simp [pk_cells3, Program.keyLits, Try.underlying3, h1, h2]
end
section
open Go.Maps
theorem at_M {w : World} {A : Option Addr} {n : Nat} {xs : List (List S92)} (h : Kd.C (Kd.slice 92 k92) w A n xs) (i : Int) (h0 : 0 ≤ i) (h1 : i < n) : ∃ ad A0 c0, A = some ad ∧ w.cell? (ad.add i.toNat) = some (.slice A0 (rdM xs i).length c0) ∧ (rdM xs i).length ≤ c0 ∧ k92.C w A0 (rdM xs i).length (rdM xs i) := by
  obtain ⟨ad, c, e, _, hK, hc0⟩ := Kd.C_get h ([] : List S92) i h0 h1
  have hc : ∀ j u, c[j]? = some u → w.cell? (ad.add (i.toNat * 1 + j)) = some u := hc0
  obtain ⟨A0, c0, rfl, l0, g0⟩ := hK
  exact ⟨ad, A0, c0, e, by have hq := hc 0 _ rfl; rwa [Nat.mul_one, Nat.add_zero] at hq, l0, g0⟩
def inT (T : List PKy) : PKy → Option Int := fun y => if y ∈ T then some 1 else none
theorem inT_upd (T : List PKy) (x : PKy) (hx : x ∉ T) : updF (inT T) x 1 = inT (x :: T) := by
  funext y
  unfold updF inT
  by_cases e : y = x
  · subst e
    simp
  · simp [e]
theorem wrapm_hi (n : Int) : wrap64 n ≤ 9223372036854775807 := by
  unfold wrap64
  omega
theorem withinm_t {a b c : Int} (h : impl_within.f a b c = some true) : b ≤ a ∧ a ≤ c := by
  unfold impl_within.f at h
  split at h
  · exact ⟨‹_›, of_decide_eq_true (Option.some.inj h)⟩
  · cases h
abbrev MM (w : World) (b n : Nat) (T : List PKy) : Prop := OMap Try.prog 120 3 pkV w b n (inT T)
set_option maxHeartbeats 8000000 in
set_option maxRecDepth 100000 in
theorem mov_walk (k : Nat) (A0 : Option Addr) (c0 : Nat) (l0 : List (List S92)) (a1 a2 : Int) (r : Bool) (w : World) (hr0 : Kd.C (Kd.slice 92 k92) w A0 l0.length l0) (hc0 : l0.length ≤ c0)
    (h1 : impl_within.f a1 1 64 = some true) (h2 : impl_within.f a2 1 64 = some true) (h3 : ¬ (l0.length : Int) > 300) (h : mvO k l0 a1 a2 0 0 = some r) :
    Calls Try.prog 74 #[.slice A0 l0.length c0, .int .i64 a1, .int .i64 a2] w fun e w' => e = .returned (.bool r) ∧ Below w.heap.size w w' := by
  have HR := Aside0.mk (And.intro hr0 hc0)
  have H1 := Aside0.mk h1
  have H2 := Aside0.mk h2
  have H' := Aside0.mk h
  have e1 : decide ((l0.length : Int) > 300) = false := decide_eq_false h3
  clear hr0 hc0 h1 h2 h3 h
  have hmm := @run_makeMap Try.prog
  go_enter Try.func74, Try.ntmps74
  go_wp2_with (first | (go_at_call 57; (with_reducible refine (impl_within.calls a1 1 64 true _ H1.out).mono ?_); rintro e w' ⟨rfl, ⟨nd, rfl⟩⟩) | (go_at_call 57; (with_reducible refine (impl_within.calls a2 1 64 true _ H2.out).mono ?_); rintro e w' ⟨rfl, ⟨nd2, rfl⟩⟩))
  have B0 := Aside0.mk (show Below w.heap.size w _ from pw_below_drewN (pw_below_drewN (Below.refl _ w) nd) nd2)
  go_loopg [7, 28] k (fun kq v7 v28 wr => ∃ (s i : Int), v7 = .int .i64 s ∧ v28 = .int .i64 i ∧ Aside0 (mvO kq l0 a1 a2 s i = some r) ∧ Aside0 (kq ≤ k) ∧ Aside0 (Below w.heap.size w wr))
  case atStart => exact ⟨0, 0, rfl, rfl, H', ⟨Nat.le_refl _⟩, ⟨by first | exact B0.out | exact (by have h_ := B0.out; simpa using h_)⟩⟩
  case round =>
    clear H' B0
    obtain ⟨s, i, rfl, rfl, HA, HK1, HB⟩ := hrel
    cases gk with
    | zero => exact absurd HA.out (by simp [mvO])
    | succ k1 =>
      have H := HA.out
      clear HA
      simp only [mvO] at H
      by_cases c6 : i < (l0.length : Int)
      · rw [if_pos c6] at H
        have c6b0 : decide (i < (l0.length : Int)) = true := decide_eq_true c6
        by_cases c7 : 0 ≤ i
        · rw [if_pos c7] at H
          obtain ⟨ad, A3, c3, e3, hx, hlc, hrow⟩ := at_M HR.out.1 i c7 c6
          cases e3
          replace hx := (HB.out.cell (World.block_lt_of_cell? w _ hx)).trans hx
          have HRW := Aside0.mk (And.intro hrow hlc)
          clear hrow hlc
          have c7' := eq_true c7
          have c6' := eq_true c6
          clear c6 c7
          by_cases c8 : wrap64 (s + ((rdM l0 i).length : Int)) > 5000
          · rw [if_pos c8] at H
            obtain rfl := Option.some.inj H
            have c8b0 : decide (wrap64 (s + ((rdM l0 i).length : Int)) > 5000) = true := decide_eq_true c8
            clear H c8
            go_wp2
            go_ret
            exact ⟨rfl, HB.out⟩
          · rw [if_neg c8] at H
            have c8b0 : decide (wrap64 (s + ((rdM l0 i).length : Int)) > 5000) = false := decide_eq_false c8
            clear c8
            by_cases c9 : (rdM l0 i).length ≤ 35184372088832
            · rw [if_pos c9] at H
              have HLN := Aside0.mk c9
              clear c9
              obtain ⟨br, hin, H⟩ := Option.bind_eq_some_iff.mp H
              have HIN := Aside0.mk hin
              have HOU := Aside0.mk H
              clear hin H
              go_upto_region 11 with (fail)
              have M0 := Aside0.mk (show MM (wr.alloc (.map #[] 0)) wr.heap.size 0 [] from OMap.made wr)
              have B0 := Aside0.mk (show Below w.heap.size w (wr.alloc (.map #[] 0)) from below_alloc HB.out _)
              have Z0 := Aside0.mk (show w.heap.size ≤ wr.heap.size from HB.out.size)
              obtain ⟨W0, hW0⟩ : ∃ W0, W0 = wr.alloc (.map #[] 0) := ⟨_, rfl⟩
              obtain ⟨bm, hbm⟩ : ∃ bm, bm = wr.heap.size := ⟨_, rfl⟩
              rw [← hW0, ← hbm] at M0
              rw [← hW0] at B0 ⊢
              rw [← hbm] at Z0 ⊢
              clear hW0 hbm hx
              go_wp2
              go_loopg [41] k1 (fun kp v41 wq => ∃ (j : Int) (T : List PKy), v41 = .int .i64 j ∧ Aside0 (mvL kp (rdM l0 i) a1 a2 T j = some br) ∧ Aside0 (kp ≤ k1) ∧ Aside0 (MM wq bm T.length T) ∧ Aside0 ((T.length : Int) = j) ∧ Aside0 (Below w.heap.size w wq))
              case atStart => exact ⟨0, [], rfl, HIN, ⟨Nat.le_refl _⟩, M0, ⟨rfl⟩, B0⟩
              case round =>
                clear HIN M0 B0 HB
                obtain ⟨j, T, rfl, HA, HK2, HM, HI, HB⟩ := hrel
                cases gk with
                | zero => exact absurd HA.out (by simp [mvL])
                | succ k2 =>
                  have H := HA.out
                  clear HA
                  simp only [mvL] at H
                  by_cases d6 : j < ((rdM l0 i).length : Int)
                  · rw [if_pos d6] at H
                    have d6b0 : decide (j < ((rdM l0 i).length : Int)) = true := decide_eq_true d6
                    by_cases d7 : 0 ≤ j
                    · rw [if_pos d7] at H
                      obtain ⟨bb, hbad, H⟩ := Option.bind_eq_some_iff.mp H
                      have H'' := Aside0.mk H
                      obtain ⟨ad2, e2, hy0, hy1, hy2, hy3⟩ := at_T92 HRW.out.1 j d7 d6
                      obtain rfl := e2
                      replace hy0 := (HB.out.cell (World.block_lt_of_cell? w _ hy0)).trans hy0
                      replace hy1 := (HB.out.cell (World.block_lt_of_cell? w _ hy1)).trans hy1
                      replace hy2 := (HB.out.cell (World.block_lt_of_cell? w _ hy2)).trans hy2
                      replace hy3 := (HB.out.cell (World.block_lt_of_cell? w _ hy3)).trans hy3
                      have d7' := eq_true d7
                      have d6' := eq_true d6
                      have d67 := Aside0.mk (And.intro d6 d7)
                      clear H d6 d7
                      go_upto_region 14 with (fail)
                      have BX := Aside0.mk (heap_alloc_new wr (.cells #[.int .i64 (rd_T92 (rdM l0 i) j).f0, .int .i64 (rd_T92 (rdM l0 i) j).f1, .int .i64 (rd_T92 (rdM l0 i) j).f2, .bool (rd_T92 (rdM l0 i) j).f3] 92))
                      have n0_ := Aside0.mk (show MM (wr.alloc (.cells #[.int .i64 (rd_T92 (rdM l0 i) j).f0, .int .i64 (rd_T92 (rdM l0 i) j).f1, .int .i64 (rd_T92 (rdM l0 i) j).f2, .bool (rd_T92 (rdM l0 i) j).f3] 92)) bm T.length T from OMap.kept HM.out (World.grownBy_alloc _ _ none) (by simp))
                      have n1_ := Aside0.mk (show Below w.heap.size w (wr.alloc (.cells #[.int .i64 (rd_T92 (rdM l0 i) j).f0, .int .i64 (rd_T92 (rdM l0 i) j).f1, .int .i64 (rd_T92 (rdM l0 i) j).f2, .bool (rd_T92 (rdM l0 i) j).f3] 92)) from below_alloc HB.out _)
                      have HG := Aside0.mk (show bm < wr.heap.size from OMap.lt HM.out)
                      clear HM HB
                      have HM := n0_
                      have HB := n1_
                      clear n0_ n1_ hy0 hy1 hy2 hy3
                      obtain ⟨W1, hW1⟩ : ∃ W1, W1 = wr.alloc (.cells #[.int .i64 (rd_T92 (rdM l0 i) j).f0, .int .i64 (rd_T92 (rdM l0 i) j).f1, .int .i64 (rd_T92 (rdM l0 i) j).f2, .bool (rd_T92 (rdM l0 i) j).f3] 92) := ⟨_, rfl⟩
                      rw [← hW1] at BX HM HB ⊢
                      obtain ⟨gx, hgx⟩ : ∃ gx, gx = wr.heap.size := ⟨_, rfl⟩
                      rw [← hgx] at BX HG ⊢
                      clear hW1 hgx
                      have ky0 := (blk_cell BX.out 0).trans (show (#[.int .i64 (rd_T92 (rdM l0 i) j).f0, .int .i64 (rd_T92 (rdM l0 i) j).f1, .int .i64 (rd_T92 (rdM l0 i) j).f2, .bool (rd_T92 (rdM l0 i) j).f3] : Array Value)[0]? = some (Value.int .i64 (rd_T92 (rdM l0 i) j).f0) from rfl)
                      have ky1 := (blk_cell BX.out 1).trans (show (#[.int .i64 (rd_T92 (rdM l0 i) j).f0, .int .i64 (rd_T92 (rdM l0 i) j).f1, .int .i64 (rd_T92 (rdM l0 i) j).f2, .bool (rd_T92 (rdM l0 i) j).f3] : Array Value)[1]? = some (Value.int .i64 (rd_T92 (rdM l0 i) j).f1) from rfl)
                      have ky2 := (blk_cell BX.out 2).trans (show (#[.int .i64 (rd_T92 (rdM l0 i) j).f0, .int .i64 (rd_T92 (rdM l0 i) j).f1, .int .i64 (rd_T92 (rdM l0 i) j).f2, .bool (rd_T92 (rdM l0 i) j).f3] : Array Value)[2]? = some (Value.int .i64 (rd_T92 (rdM l0 i) j).f2) from rfl)
                      have ky3 := (blk_cell BX.out 3).trans (show (#[.int .i64 (rd_T92 (rdM l0 i) j).f0, .int .i64 (rd_T92 (rdM l0 i) j).f1, .int .i64 (rd_T92 (rdM l0 i) j).f2, .bool (rd_T92 (rdM l0 i) j).f3] : Array Value)[3]? = some (Value.bool (rd_T92 (rdM l0 i) j).f3) from rfl)
                      obtain ⟨b1, G1_, A10⟩ := Option.bind_eq_some_iff.mp (show badM (rdM l0 i) a1 a2 T j = some bb from hbad)
                      have G1 := Aside0.mk G1_
                      clear G1_ hbad
                      cases b1 with
                      | false =>
                        have HBD := Aside0.mk (show some true = some bb from A10)
                        clear A10
                        obtain rfl : true = bb := by simpa using HBD.out
                        obtain rfl : false = br := by simpa using H''.out
                        obtain rfl : false = r := by simpa using HOU.out
                        clear H'' HBD HOU
                        go_wp2_with (first | (go_at_call 57; (try (refine gate_guard (by rfl) ?_; dsimp only)); (with_reducible refine (impl_within.calls (rd_T92 (rdM l0 i) j).f0 0 (wrap64 (a1 - 1)) false _ G1.out).mono ?_); rintro e w' ⟨rfl, ⟨nd1, rfl⟩⟩))
                        go_ret
                        exact ⟨rfl, by repeat (first | (with_reducible first | exact HB.out | apply below_alloc | apply pw_below_drewN | apply below_drew1) | exact HB.out)⟩
                      | true =>
                      rw [if_pos rfl] at A10
                      obtain ⟨b2, G2_, A11⟩ := Option.bind_eq_some_iff.mp A10
                      have G2 := Aside0.mk G2_
                      clear G2_ A10
                      cases b2 with
                      | false =>
                        have HBD := Aside0.mk (show some true = some bb from A11)
                        clear A11
                        obtain rfl : true = bb := by simpa using HBD.out
                        obtain rfl : false = br := by simpa using H''.out
                        obtain rfl : false = r := by simpa using HOU.out
                        clear H'' HBD HOU
                        go_wp2_with (first | (go_at_call 57; (try (refine gate_guard (by rfl) ?_; dsimp only)); (with_reducible refine (impl_within.calls (rd_T92 (rdM l0 i) j).f0 0 (wrap64 (a1 - 1)) true _ G1.out).mono ?_); rintro e w' ⟨rfl, ⟨nd1, rfl⟩⟩) | (go_at_call 57; (try (refine gate_guard (by rfl) ?_; dsimp only)); (with_reducible refine (impl_within.calls (rd_T92 (rdM l0 i) j).f1 0 (wrap64 (a1 - 1)) false _ G2.out).mono ?_); rintro e w' ⟨rfl, ⟨nd2, rfl⟩⟩))
                        go_ret
                        exact ⟨rfl, by repeat (first | (with_reducible first | exact HB.out | apply below_alloc | apply pw_below_drewN | apply below_drew1) | exact HB.out)⟩
                      | true =>
                      rw [if_pos rfl] at A11
                      by_cases q0 : (rd_T92 (rdM l0 i) j).f0 = (rd_T92 (rdM l0 i) j).f1
                      · rw [if_pos q0] at A11
                        have q0b : ((rd_T92 (rdM l0 i) j).f0 == (rd_T92 (rdM l0 i) j).f1) = true := beq_iff_eq.mpr q0
                        have HBD := Aside0.mk A11
                        clear A11 q0
                        obtain rfl : true = bb := by simpa using HBD.out
                        obtain rfl : false = br := by simpa using H''.out
                        obtain rfl : false = r := by simpa using HOU.out
                        clear H'' HBD HOU
                        go_wp2_with (first | (go_at_call 57; (try (refine gate_guard (by rfl) ?_; dsimp only)); (with_reducible refine (impl_within.calls (rd_T92 (rdM l0 i) j).f0 0 (wrap64 (a1 - 1)) true _ G1.out).mono ?_); rintro e w' ⟨rfl, ⟨nd1, rfl⟩⟩) | (go_at_call 57; (try (refine gate_guard (by rfl) ?_; dsimp only)); (with_reducible refine (impl_within.calls (rd_T92 (rdM l0 i) j).f1 0 (wrap64 (a1 - 1)) true _ G2.out).mono ?_); rintro e w' ⟨rfl, ⟨nd2, rfl⟩⟩))
                        go_ret
                        exact ⟨rfl, by repeat (first | (with_reducible first | exact HB.out | apply below_alloc | apply pw_below_drewN | apply below_drew1) | exact HB.out)⟩
                      · rw [if_neg q0] at A11
                        have q0b : ((rd_T92 (rdM l0 i) j).f0 == (rd_T92 (rdM l0 i) j).f1) = false := beq_eq_false_iff_ne.mpr q0
                        clear q0
                        obtain ⟨b3, G3_, A12⟩ := Option.bind_eq_some_iff.mp A11
                        have G3 := Aside0.mk G3_
                        clear G3_ A11
                        cases b3 with
                        | false =>
                          have HBD := Aside0.mk (show some true = some bb from A12)
                          clear A12
                          obtain rfl : true = bb := by simpa using HBD.out
                          obtain rfl : false = br := by simpa using H''.out
                          obtain rfl : false = r := by simpa using HOU.out
                          clear H'' HBD HOU
                          go_wp2_with (first | (go_at_call 57; (try (refine gate_guard (by rfl) ?_; dsimp only)); (with_reducible refine (impl_within.calls (rd_T92 (rdM l0 i) j).f0 0 (wrap64 (a1 - 1)) true _ G1.out).mono ?_); rintro e w' ⟨rfl, ⟨nd1, rfl⟩⟩) | (go_at_call 57; (try (refine gate_guard (by rfl) ?_; dsimp only)); (with_reducible refine (impl_within.calls (rd_T92 (rdM l0 i) j).f1 0 (wrap64 (a1 - 1)) true _ G2.out).mono ?_); rintro e w' ⟨rfl, ⟨nd2, rfl⟩⟩) | (go_at_call 57; (try (refine gate_guard (by rfl) ?_; dsimp only)); (with_reducible refine (impl_within.calls (rd_T92 (rdM l0 i) j).f2 0 (wrap64 (a2 - 1)) false _ G3.out).mono ?_); rintro e w' ⟨rfl, ⟨nd3, rfl⟩⟩))
                          go_ret
                          exact ⟨rfl, by repeat (first | (with_reducible first | exact HB.out | apply below_alloc | apply pw_below_drewN | apply below_drew1) | exact HB.out)⟩
                        | true =>
                        rw [if_pos rfl] at A12
                        have w1_ : (Lit.int .i64 (rd_T92 (rdM l0 i) j).f1).wf = true := WalkArith.wf_i64 (by have := withinm_t G2.out; have := wrapm_hi (a1 - 1); omega)
                        have w2_ : (Lit.int .i64 (rd_T92 (rdM l0 i) j).f2).wf = true := WalkArith.wf_i64 (by have := withinm_t G3.out; have := wrapm_hi (a2 - 1); omega)
                        obtain ⟨kl, hkl⟩ := pk_key (⟨(rd_T92 (rdM l0 i) j).f1, (rd_T92 (rdM l0 i) j).f2⟩ : PKy) w1_ w2_
                        have HKL := Aside0.mk hkl
                        clear hkl w1_ w2_
                        by_cases q1 : (⟨(rd_T92 (rdM l0 i) j).f1, (rd_T92 (rdM l0 i) j).f2⟩ : PKy) ∈ T
                        · have HBD := Aside0.mk (show some true = some bb from by rw [← A12]; simp [q1])
                          have hv : decide ((inT T (⟨(rd_T92 (rdM l0 i) j).f1, (rd_T92 (rdM l0 i) j).f2⟩ : PKy)).getD 0 > 0) = true := by simp [inT, q1]
                          clear A12 q1
                          obtain rfl : true = bb := by simpa using HBD.out
                          obtain rfl : false = br := by simpa using H''.out
                          obtain rfl : false = r := by simpa using HOU.out
                          clear H'' HBD HOU
                          go_wp2_with (first | (go_at_call 57; (try (refine gate_guard (by rfl) ?_; dsimp only)); (with_reducible refine (impl_within.calls (rd_T92 (rdM l0 i) j).f0 0 (wrap64 (a1 - 1)) true _ G1.out).mono ?_); rintro e w' ⟨rfl, ⟨nd1, rfl⟩⟩) | (go_at_call 57; (try (refine gate_guard (by rfl) ?_; dsimp only)); (with_reducible refine (impl_within.calls (rd_T92 (rdM l0 i) j).f1 0 (wrap64 (a1 - 1)) true _ G2.out).mono ?_); rintro e w' ⟨rfl, ⟨nd2, rfl⟩⟩) | (go_at_call 57; (try (refine gate_guard (by rfl) ?_; dsimp only)); (with_reducible refine (impl_within.calls (rd_T92 (rdM l0 i) j).f2 0 (wrap64 (a2 - 1)) true _ G3.out).mono ?_); rintro e w' ⟨rfl, ⟨nd3, rfl⟩⟩) | (at_lookup; (try (refine gate_guard (by rfl) ?_; dsimp only)); refine wpList_lookup_omap (T := 118) rfl _ _ rfl pk_law Try.underlying118 Try.underlying3 pk_zero rfl (OMap.block HM.out rfl) (⟨(rd_T92 (rdM l0 i) j).f1, (rd_T92 (rdM l0 i) j).f2⟩ : PKy) rfl HKL.out ?_))
                          go_ret
                          exact ⟨rfl, by repeat (first | (with_reducible first | exact HB.out | apply below_alloc | apply pw_below_drewN | apply below_drew1) | exact HB.out)⟩
                        · obtain rfl : false = bb := by simpa [q1] using A12
                          have H3 := Aside0.mk (show mvL k2 (rdM l0 i) a1 a2 ((⟨(rd_T92 (rdM l0 i) j).f1, (rd_T92 (rdM l0 i) j).f2⟩ : PKy) :: T) (wrap64 (j + 1)) = some br from by have h_ := H''.out; rwa [if_neg (by simp)] at h_)
                          have hv0 : inT T (⟨(rd_T92 (rdM l0 i) j).f1, (rd_T92 (rdM l0 i) j).f2⟩ : PKy) = none := by simp [inT, q1]
                          have hv : decide ((inT T (⟨(rd_T92 (rdM l0 i) j).f1, (rd_T92 (rdM l0 i) j).f2⟩ : PKy)).getD 0 > 0) = false := by rw [hv0]; rfl
                          have HQ1 := Aside0.mk q1
                          clear A12 q1 H''
                          go_upto_region 16 with (first | (go_at_call 57; (try (refine gate_guard (by rfl) ?_; dsimp only)); (with_reducible refine (impl_within.calls (rd_T92 (rdM l0 i) j).f0 0 (wrap64 (a1 - 1)) true _ G1.out).mono ?_); rintro e w' ⟨rfl, ⟨nd1, rfl⟩⟩) | (go_at_call 57; (try (refine gate_guard (by rfl) ?_; dsimp only)); (with_reducible refine (impl_within.calls (rd_T92 (rdM l0 i) j).f1 0 (wrap64 (a1 - 1)) true _ G2.out).mono ?_); rintro e w' ⟨rfl, ⟨nd2, rfl⟩⟩) | (go_at_call 57; (try (refine gate_guard (by rfl) ?_; dsimp only)); (with_reducible refine (impl_within.calls (rd_T92 (rdM l0 i) j).f2 0 (wrap64 (a2 - 1)) true _ G3.out).mono ?_); rintro e w' ⟨rfl, ⟨nd3, rfl⟩⟩) | (at_lookup; (try (refine gate_guard (by rfl) ?_; dsimp only)); refine wpList_lookup_omap (T := 118) rfl _ _ rfl pk_law Try.underlying118 Try.underlying3 pk_zero rfl (OMap.block HM.out rfl) (⟨(rd_T92 (rdM l0 i) j).f1, (rd_T92 (rdM l0 i) j).f2⟩ : PKy) rfl HKL.out ?_))
                          have n0_ := Aside0.mk (show Below w.heap.size w (W1.drewN (nd1 + nd2 + nd3)) from pw_below_drewN HB.out _)
                          have n1_ := Aside0.mk (blk_drewN BX.out (nd1 + nd2 + nd3))
                          have n2_ := Aside0.mk (show MM (W1.drewN (nd1 + nd2 + nd3)) bm T.length T from OMap.block HM.out rfl)
                          clear HB BX HM ky0 ky1 ky2 ky3
                          have HB := n0_
                          have BX := n1_
                          have HM := n2_
                          clear n0_ n1_ n2_
                          revert HB BX HM
                          generalize W1.drewN (nd1 + nd2 + nd3) = W5
                          intro HB BX HM
                          have HMd := Aside0.mk (show MM W5.drew bm T.length T from OMap.block HM.out rfl)
                          have BXd := Aside0.mk (show W5.drew.heap[gx]? = some (.cells #[.int .i64 (rd_T92 (rdM l0 i) j).f0, .int .i64 (rd_T92 (rdM l0 i) j).f1, .int .i64 (rd_T92 (rdM l0 i) j).f2, .bool (rd_T92 (rdM l0 i) j).f3] 92 (0, 0)) from BX.out)
                          have LK0 := Aside0.mk (show (Instr.lookup 118 (.map (some bm)) (.agg #[.int .i64 (rd_T92 (rdM l0 i) j).f1, .int .i64 (rd_T92 (rdM l0 i) j).f2]) false).run Try.prog W5.drew = .ok (.int .i64 0) W5.drew from by have h_ := OMap.look HMd.out pk_law Try.underlying118 Try.underlying3 pk_zero HKL.out; rw [hv0] at h_; exact h_)
                          obtain ⟨v0_, st_, w1, hme, hlk1, hg1, hes⟩ := OMap.entry HMd.out pk_law0 pkV_inj Try.underlying118 Try.underlying3 pk_zero (by have := HI.out; have := d67.out; have := HLN.out; unfold maxLen; omega) HKL.out
                          obtain ⟨w2, hst, hm2, hg2⟩ := hes 1 (by decide)
                          have LK1 := Aside0.mk (show (Instr.lookup 118 (.map (some bm)) (.agg #[.int .i64 (rd_T92 (rdM l0 i) j).f1, .int .i64 (rd_T92 (rdM l0 i) j).f2]) false).run Try.prog w1 = .ok (.int .i64 0) w1 from by have h_ := hlk1; rw [hv0] at h_; exact h_)
                          have BX1 := Aside0.mk ((hg1.block gx (blk_lt BXd.out) (by intro e; have h1_ := HG.out; injection e with e; omega)).trans BXd.out)
                          have BX2 := Aside0.mk ((hg2.block gx (blk_lt BXd.out) (by intro e; have h1_ := HG.out; injection e with e; omega)).trans BXd.out)
                          have HM2 := Aside0.mk (show MM w2 bm (T.length + 1) ((⟨(rd_T92 (rdM l0 i) j).f1, (rd_T92 (rdM l0 i) j).f2⟩ : PKy) :: T) from by have h_ := hm2; rwa [inT_upd T _ HQ1.out] at h_)
                          have HB2 := Aside0.mk (show Below w.heap.size w w2 from (show Below w.heap.size w W5.drew from below_drew1 HB.out).grown hg2 (Nat.le_trans Z0.out (Nat.le_of_lt (OMap.lt HMd.out))) (fun g e => by cases e; exact Z0.out))
                          have lk0_ := LK0.out
                          have lk1_ := LK1.out
                          clear hlk1 hg1 hes hm2 hg2 hv hv0
                          simp only [pkV] at hme
                          have hw1_ : IntKind.i64.wrap 1 = 1 := by rw [i64_w]; unfold wrap64; omega
                          go_region_held3 (fun w' => w'.cell? ⟨gx, 0, none⟩ = some (.int .i64 (rd_T92 (rdM l0 i) j).f0) ∧ w'.cell? ⟨gx, 1, none⟩ = some (.int .i64 (rd_T92 (rdM l0 i) j).f1) ∧ w'.cell? ⟨gx, 2, none⟩ = some (.int .i64 (rd_T92 (rdM l0 i) j).f2) ∧ w'.cell? ⟨gx, 3, none⟩ = some (.bool (rd_T92 (rdM l0 i) j).f3)) (first | exact ⟨(blk_cell BXd.out 0).trans rfl, (blk_cell BXd.out 1).trans rfl, (blk_cell BXd.out 2).trans rfl, (blk_cell BXd.out 3).trans rfl⟩ | exact ⟨(blk_cell BX1.out 0).trans rfl, (blk_cell BX1.out 1).trans rfl, (blk_cell BX1.out 2).trans rfl, (blk_cell BX1.out 3).trans rfl⟩ | exact ⟨(blk_cell BX2.out 0).trans rfl, (blk_cell BX2.out 1).trans rfl, (blk_cell BX2.out 2).trans rfl, (blk_cell BX2.out 3).trans rfl⟩ | go_keep) (fail)
                          all_goals (
                            go_wp2
                            go_roundg k2
                            case measure => have := HK2.out; omega
                            case rel => exact ⟨wrap64 (j + 1), (⟨(rd_T92 (rdM l0 i) j).f1, (rd_T92 (rdM l0 i) j).f2⟩ : PKy) :: T, rfl, H3, ⟨by have := HK2.out; omega⟩, ⟨HM2.out⟩, ⟨by have := HI.out; have := d67.out; have := HLN.out; rw [List.length_cons]; unfold wrap64; omega⟩, HB2⟩)
                    · rw [if_neg d7] at H
                      exact absurd H (by simp)
                  · rw [if_neg d6] at H
                    have d6b0 : decide (j < ((rdM l0 i).length : Int)) = false := decide_eq_false d6
                    obtain rfl := Option.some.inj H
                    have HO := HOU.out
                    rw [if_pos rfl] at HO
                    have HO' := Aside0.mk HO
                    clear d6 H HO HOU
                    go_wp2
                    go_roundg k1
                    case measure => have := HK1.out; omega
                    case rel => exact ⟨_, _, rfl, rfl, HO', ⟨by have := HK1.out; omega⟩, HB⟩
            · rw [if_neg c9] at H
              cases H
        · rw [if_neg c7] at H
          exact absurd H (by simp)
      · rw [if_neg c6] at H
        have c6b0 : decide (i < (l0.length : Int)) = false := decide_eq_false c6
        obtain rfl := Option.some.inj H
        clear c6 H
        go_wp2
        go_ret
        exact ⟨rfl, HB.out⟩
end
section
set_option maxHeartbeats 4000000 in
set_option maxRecDepth 100000 in
theorem mov_no1 (A0 : Option Addr) (c0 : Nat) (l0 : List (List S92)) (a1 a2 : Int) (w : World) (h1 : impl_within.f a1 1 64 = some false) :
    Calls Try.prog 74 #[.slice A0 l0.length c0, .int .i64 a1, .int .i64 a2] w fun e w' => e = .returned (.bool false) ∧ Below w.heap.size w w' := by
  have H1 := Aside0.mk h1
  clear h1
  go_enter Try.func74, Try.ntmps74
  go_wp2_with (first | (go_at_call 57; (with_reducible refine (impl_within.calls a1 1 64 false _ H1.out).mono ?_); rintro e w' ⟨rfl, ⟨nd, rfl⟩⟩))
  go_ret
  exact ⟨rfl, pw_below_drewN (Below.refl _ w) nd⟩
set_option maxHeartbeats 4000000 in
set_option maxRecDepth 100000 in
theorem mov_no2 (A0 : Option Addr) (c0 : Nat) (l0 : List (List S92)) (a1 a2 : Int) (w : World) (h1 : impl_within.f a1 1 64 = some true) (h2 : impl_within.f a2 1 64 = some false) :
    Calls Try.prog 74 #[.slice A0 l0.length c0, .int .i64 a1, .int .i64 a2] w fun e w' => e = .returned (.bool false) ∧ Below w.heap.size w w' := by
  have H1 := Aside0.mk h1
  have H2 := Aside0.mk h2
  clear h1 h2
  go_enter Try.func74, Try.ntmps74
  go_wp2_with (first | (go_at_call 57; (with_reducible refine (impl_within.calls a1 1 64 true _ H1.out).mono ?_); rintro e w' ⟨rfl, ⟨nd, rfl⟩⟩) | (go_at_call 57; (try (refine gate_guard (by rfl) ?_; dsimp only)); (with_reducible refine (impl_within.calls a2 1 64 false _ H2.out).mono ?_); rintro e w' ⟨rfl, ⟨nd2, rfl⟩⟩))
  go_ret
  exact ⟨rfl, pw_below_drewN (Below.refl _ w) _⟩
set_option maxHeartbeats 4000000 in
set_option maxRecDepth 100000 in
theorem mov_no3 (A0 : Option Addr) (c0 : Nat) (l0 : List (List S92)) (a1 a2 : Int) (w : World) (h1 : impl_within.f a1 1 64 = some true) (h2 : impl_within.f a2 1 64 = some true) (h3 : (l0.length : Int) > 300) :
    Calls Try.prog 74 #[.slice A0 l0.length c0, .int .i64 a1, .int .i64 a2] w fun e w' => e = .returned (.bool false) ∧ Below w.heap.size w w' := by
  have H1 := Aside0.mk h1
  have H2 := Aside0.mk h2
  have e1 : decide ((l0.length : Int) > 300) = true := decide_eq_true h3
  clear h1 h2 h3
  go_enter Try.func74, Try.ntmps74
  go_wp2_with (first | (go_at_call 57; (with_reducible refine (impl_within.calls a1 1 64 true _ H1.out).mono ?_); rintro e w' ⟨rfl, ⟨nd, rfl⟩⟩) | (go_at_call 57; (try (refine gate_guard (by rfl) ?_; dsimp only)); (with_reducible refine (impl_within.calls a2 1 64 true _ H2.out).mono ?_); rintro e w' ⟨rfl, ⟨nd2, rfl⟩⟩))
  go_ret
  exact ⟨rfl, pw_below_drewN (Below.refl _ w) _⟩
end

set_option maxHeartbeats 8000000 in
set_option maxRecDepth 100000 in
theorem impl_MovesOk.calls (k : Nat) (A0 : Option Addr) (c0 : Nat) (l0 : List (List (S92))) (a1 : Int) (a2 : Int) (r : Bool) (w : World) (hr0 : Kd.C (Kd.slice 92 k92) w A0 l0.length l0) (hc0 : l0.length ≤ c0) (h : impl_MovesOk.f k l0 a1 a2 = some r) :
    Calls Try.prog 74 #[.slice A0 l0.length c0, .int .i64 a1, .int .i64 a2] w fun e w' => e = .returned (.bool r) ∧ Below w.heap.size w w' := by
  unfold impl_MovesOk.f at h
  obtain ⟨b1, h1, h⟩ := Option.bind_eq_some_iff.mp h
  cases b1 with
  | false =>
    rw [if_neg (by simp)] at h
    obtain rfl := Option.some.inj h
    exact mov_no1 _ _ _ _ _ w h1
  | true =>
    rw [if_pos rfl] at h
    obtain ⟨b2, h2, h⟩ := Option.bind_eq_some_iff.mp h
    cases b2 with
    | false =>
      rw [if_neg (by simp)] at h
      obtain rfl := Option.some.inj h
      exact mov_no2 _ _ _ _ _ w h1 h2
    | true =>
      rw [if_pos rfl] at h
      by_cases c1 : (l0.length : Int) > 300
      · rw [if_pos c1] at h
        obtain rfl := Option.some.inj h
        exact mov_no3 _ _ _ _ _ w h1 h2 c1
      · rw [if_neg c1] at h
        exact mov_walk k _ _ l0 a1 a2 r w hr0 hc0 h1 h2 c1 h

/-! ### impl_allWithin: function 75 -/
def impl_allWithin.l0 : Nat → Int → Int → List Int → Int → Int → Option (Bool)
  | 0, _, _, _, _, _ => none
  | k + 1, x1, x2, x9, x10, x11 => if x11 < x10 then (if 0 ≤ x11 then (if x11 < (x9.length : Int) then ((impl_within.f (rd x9 x11) x1 x2).bind fun t190 => (if t190 = true then (impl_allWithin.l0 k x1 x2 x9 x10 (wrap64 (x11 + 1))) else (some false))) else (none)) else (none)) else (some true)
def impl_allWithin.f (k : Nat) (l0 : List Int) (a1 : Int) (a2 : Int) : Option (Bool) := impl_allWithin.l0 k a1 a2 l0 (l0.length : Int) 0
theorem impl_allWithin.mono_l : ∀ k, (∀ y0 y1 y2 y3 y4, LeO (impl_allWithin.l0 k y0 y1 y2 y3 y4) (impl_allWithin.l0 (k + 1) y0 y1 y2 y3 y4))
  | 0 => fun _ _ _ _ _ r h => by simp [impl_allWithin.l0] at h
  | k + 1 => by
    have ih0 := impl_allWithin.mono_l k
    · intro y0 y1 y2 y3 y4
      unfold impl_allWithin.l0
      repeat' first
      | (with_reducible exact ih0 _ _ _ _ _)
      | (with_reducible exact LeO.refl _)
      | (with_reducible exact LeO.none _)
      | (with_reducible refine LeO.ite ?_ ?_)
      | (with_reducible refine LeO.bind ?_ (fun _ => ?_))
      | exact ih0 _ _ _ _ _
      | exact LeO.none _
      | refine LeO.ite ?_ ?_
      | refine LeO.bind ?_ (fun _ => ?_)
theorem impl_allWithin.mono : ∀ a0 a1 a2 k, LeO (impl_allWithin.f k a0 a1 a2) (impl_allWithin.f (k + 1) a0 a1 a2) := by
  intro a0 a1 a2 k
  have ih0 := impl_allWithin.mono_l k
  unfold impl_allWithin.f
  repeat' first
      | (with_reducible exact ih0 _ _ _ _ _)
      | (with_reducible exact LeO.refl _)
      | (with_reducible exact LeO.none _)
      | (with_reducible refine LeO.ite ?_ ?_)
      | (with_reducible refine LeO.bind ?_ (fun _ => ?_))
      | exact ih0 _ _ _ _ _
      | exact LeO.none _
      | refine LeO.ite ?_ ?_
      | refine LeO.bind ?_ (fun _ => ?_)
set_option maxHeartbeats 8000000 in
set_option maxRecDepth 100000 in
theorem impl_allWithin.calls (k : Nat) (A0 : Option Addr) (c0 : Nat) (l0 : List Int) (a1 : Int) (a2 : Int) (r : Bool) (w : World) (hr0 : Kd.C (Kd.int .i64) w A0 l0.length l0) (hc0 : l0.length ≤ c0) (h : impl_allWithin.f k l0 a1 a2 = some r) :
    Calls Try.prog 75 #[.slice A0 l0.length c0, .int .i64 a1, .int .i64 a2] w fun e w' => e = .returned (.bool r) ∧ Drawn0 w w' := by
  have HR0 := Aside0.mk hr0
  have HC0 := Aside0.mk hc0
  clear hr0 hc0
  have H : (impl_allWithin.l0 k a1 a2 l0 (l0.length : Int) 0) = some r := h
  clear h
  have H' := Aside0.mk H
  clear H
  go_enter Try.func75, Try.ntmps75
  go_wp2
  go_loopg [11] k (fun kq v11 w' => ∃ (x11_1 : Int), v11 = .int .i64 x11_1 ∧ Aside0 (impl_allWithin.l0 kq a1 a2 l0 (l0.length : Int) x11_1 = some r) ∧ Aside0 (kq ≤ k) ∧ Drawn0 w w')
  case atStart => exact ⟨(0), (by first | rfl | (simp; done) | (simp [*]; done)), H', ⟨Nat.le_refl _⟩, by repeat (first | exact Drawn0.refl _ | apply Drawn0.step)⟩
  case round =>
    clear H'
    try clear p2
    obtain ⟨x11_1, rfl, HA, HK1, ⟨m1, rfl⟩⟩ := hrel
    cases gk with
    | zero => exact absurd HA.out (by simp [impl_allWithin.l0])
    | succ k1 =>
      have H := HA.out
      clear HA
      simp only [impl_allWithin.l0] at H
      by_cases c4 : x11_1 < (l0.length : Int)
      · rw [if_pos c4] at H
        have c4b0 : decide (x11_1 < (l0.length : Int)) = true := decide_eq_true c4
        clear c4
        by_cases c5 : 0 ≤ x11_1
        · rw [if_pos c5] at H
          have c5b0 : decide (0 ≤ x11_1) = true := decide_eq_true c5
          clear c5
          by_cases c6 : x11_1 < (l0.length : Int)
          · rw [if_pos c6] at H
            have c6b0 : decide (x11_1 < (l0.length : Int)) = true := decide_eq_true c6
            clear c6
            replace H := Option.bind_eq_some_iff.mp H
            obtain ⟨t190, A70, H⟩ := H
            replace H : (if t190 = true then (impl_allWithin.l0 k1 a1 a2 l0 (l0.length : Int) (wrap64 (x11_1 + 1))) else (some false)) = some r := H
            have A7 := Aside0.mk A70
            clear A70
            by_cases c8 : t190 = true
            · subst c8
              have H1 : (impl_allWithin.l0 k1 a1 a2 l0 (l0.length : Int) (wrap64 (x11_1 + 1))) = some r := by rw [if_pos rfl] at H; exact H
              clear H
              have H := H1
              clear H1
              have H' := Aside0.mk H
              clear H
              have p189 : 0 ≤ (x11_1 : Int) := of_decide_eq_true (by first | (with_reducible assumption) | assumption)
              have q189 : x11_1 < (l0.length : Int) := of_decide_eq_true (by first | (with_reducible assumption) | assumption)
              obtain ⟨ad189, e189, hx189_0⟩ := Kd.at_int HR0.out x11_1 p189 q189
              cases e189
              replace p189 := eq_true p189
              replace q189 := eq_true q189
              go_wp2_with (first | ((with_reducible refine gate_callee (f := 57) rfl ?_); refine goesL_ (some 18) rfl rfl Try.func57 (by kernel_rfl) rfl #[.int .i64 (rd l0 x11_1), .int .i64 a1, .int .i64 a2] rfl (by (try simp only [List.map_toArray, List.map_cons, List.map_nil]); first | done | rfl | (simp only [List.length_drop, List.length_take]; rfl)) ?_; (with_reducible refine (impl_within.calls (rd l0 x11_1) a1 a2 true _ A7.out).mono ?_); rintro e w' ⟨rfl, ⟨nd, rfl⟩⟩; refine ⟨_, rfl, ?_⟩))
              go_roundg k1
              case measure => have := HK1.out; omega
              case rel => exact ⟨(wrap64 (x11_1 + 1)), (by first | rfl | (simp; done) | (simp [*]; done)), H', ⟨by have := HK1.out; omega⟩, by repeat (first | exact Drawn0.refl _ | apply Drawn0.step)⟩
            · replace c8 := Bool.eq_false_iff.mpr c8
              subst c8
              have H1 : (some false) = some r := by rw [if_neg (show ¬ (false = true) by decide)] at H; exact H
              clear H
              have H := H1
              clear H1
              obtain rfl := Option.some.inj H
              have p189 : 0 ≤ (x11_1 : Int) := of_decide_eq_true (by first | (with_reducible assumption) | assumption)
              have q189 : x11_1 < (l0.length : Int) := of_decide_eq_true (by first | (with_reducible assumption) | assumption)
              obtain ⟨ad189, e189, hx189_0⟩ := Kd.at_int HR0.out x11_1 p189 q189
              cases e189
              replace p189 := eq_true p189
              replace q189 := eq_true q189
              go_wp2_with (first | ((with_reducible refine gate_callee (f := 57) rfl ?_); refine goesL_ (some 18) rfl rfl Try.func57 (by kernel_rfl) rfl #[.int .i64 (rd l0 x11_1), .int .i64 a1, .int .i64 a2] rfl (by (try simp only [List.map_toArray, List.map_cons, List.map_nil]); first | done | rfl | (simp only [List.length_drop, List.length_take]; rfl)) ?_; (with_reducible refine (impl_within.calls (rd l0 x11_1) a1 a2 false _ A7.out).mono ?_); rintro e w' ⟨rfl, ⟨nd, rfl⟩⟩; refine ⟨_, rfl, ?_⟩))
              go_ret
              exact ⟨by first | rfl | (simp; done) | (simp [*]; done), by repeat (first | exact Drawn0.refl _ | apply Drawn0.step)⟩
          · rw [if_neg c6] at H
            exact absurd H (by simp)
        · rw [if_neg c5] at H
          exact absurd H (by simp)
      · rw [if_neg c4] at H
        have c4b0 : decide (x11_1 < (l0.length : Int)) = false := decide_eq_false c4
        clear c4
        obtain rfl := Option.some.inj H
        go_wp2
        go_ret
        exact ⟨by first | rfl | (simp; done) | (simp [*]; done), by repeat (first | exact Drawn0.refl _ | apply Drawn0.step)⟩

end Go.Proofs.Ytpoblnigmfbnfac.PFnExactFinish
