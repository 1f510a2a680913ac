-- Printed out of the translation, hand-written contracts beside it; checked by the kernel alone.
import Derived.Test.YtpoblnigmfbnfaaPFnExactTwicex0
import Derived.Test.YtpoblnigmfbnfaaPFnExactTwicex4
namespace Go.Proofs.Ytpoblnigmfbnfaa.PFnExactTwice
open Go.RowKit Go.Proofs.YtpoblnigmfbnfaaW.PrintWords Go.Proofs.YtpoblnigmfbnfaaW.PrintLast Go.Proofs.YtpoblnigmfbnfaaW.PrintMore
attribute [local go_sem] max2_int min2_int max_two min_two max_three min_three max_four min_four   -- for this text's walks alone
set_option linter.unusedVariables false
set_option linter.unusedSimpArgs false

/-! ### impl_Twice: function 27 -/
section
attribute [local go_sem] Oper.semAt_some
/-! ### a range over an iterator that keeps a row of its own -/
/-- All that lay is as it lay, but for two blocks; new ones may have come. -/
def KeepTwo (A B : World) (r X : Nat) : Prop := A.heap.size ≤ B.heap.size ∧ (∀ k, k < A.heap.size → k ≠ r → k ≠ X → B.heap[k]? = A.heap[k]?) ∧ B.os = A.os ∧ B.tape = A.tape ∧ B.output = A.output
/-- What a round leaves alone: the iterator's row and what is told. -/
def RoundKeeps (prot : Nat → Prop) (X : Nat) (A B : World) : Prop := A.heap.size ≤ B.heap.size ∧ ∀ k, k = X ∨ prot k → B.heap[k]? = A.heap[k]?
/-- The contract of an iterator value that lays a row at the heap's end and writes there alone. -/
def SeqRow {α : Type} (F : Fence) (n : Nat) (P : Program) (g : Nat) (lb : Array Value) (encs : α → Array Value) (prot : Nat → Prop) (xs : List α) (w : World) : Prop :=
  ∀ (l : Nat) (J Jx : List α → World → Prop) (W : World), w.heap.size ≤ W.heap.size → (∀ k, k < w.heap.size → W.heap[k]? = w.heap[k]?) →
    (∀ s A B, J s A → KeepTwo A B W.heap.size W.heap.size → J s B) → (∀ s A B, Jx s A → KeepTwo A B W.heap.size W.heap.size → Jx s B) →
    (∀ pre x W1, J pre W1 → pre ++ [x] <+: xs → W.heap.size < W1.heap.size → YieldAt F (n - 1) P l (encs x) W1 fun e W' =>
      (e = .returned (.bool true) ∧ J (pre ++ [x]) W' ∧ RoundKeeps prot W.heap.size W1 W') ∨ (e = .returned (.bool false) ∧ Jx (pre ++ [x]) W')) →
    J [] W →
    CallsIn F n P g (#[.func (.yield l) #[] #[]] ++ lb) W fun e W' => (∃ v, e = .returned v) ∧ (J xs W' ∨ ∃ pre, pre <+: xs ∧ Jx pre W')
/-- How the body of a round may be left. -/
def rowPost {α : Type} (prot : Nat → Prop) (X : Nat) (I : List α → World → Prop) (Ix : Code → List α → World → Prop) (xs : List α) (W : World) : Exit → Act → World → Prop
  | .normal, _, W' => KeepsOthers W W' ∧ RoundKeeps prot X W W' ∧ I xs W'
  | .ret, _, W' => KeepsOthers W W' ∧ Ix .ret xs W'
  | .exit id, _, W' => KeepsOthers W W' ∧ Ix (.exit id) xs W'
  | .goto t, _, W' => KeepsOthers W W' ∧ Ix (.goto t) xs W'
  | .panic _, _, _ => False
  | .outgrown, _, _ => False
theorem keepTwo_alloc (w : World) (o : Obj) (r X : Nat) : KeepTwo w (w.alloc o) r X := ⟨by simp, fun k hk _ _ => Below.heap_alloc w o k hk, rfl, rfl, rfl⟩
theorem keepTwo_put (W : World) (r X : Nat) (o : Obj) : KeepTwo W (W.putObj r o) r X := ⟨by simp, fun k _ h _ => World.putObj_heap_other h, rfl, rfl, rfl⟩
theorem keepTwo_one {A B : World} {X : Nat} (h : KeepTwo A B X X) (r : Nat) : KeepTwo A B r X := ⟨h.1, fun k hk _ h2 => h.2.1 k hk h2 h2, h.2.2⟩
theorem keepTwo_drewN (W : World) (n r X : Nat) : KeepTwo W (W.drewN n) r X := ⟨Nat.le_refl _, fun _ _ _ _ => rfl, rfl, rfl, rfl⟩
theorem keepTwo_trans {A B C : World} {r X : Nat} (h : KeepTwo A B r X) (k : KeepTwo B C r X) : KeepTwo A C r X := ⟨Nat.le_trans h.1 k.1, fun i hi h1 h2 => (k.2.1 i (Nat.lt_of_lt_of_le hi h.1) h1 h2).trans (h.2.1 i hi h1 h2), k.2.2.1.trans h.2.2.1, k.2.2.2.1.trans h.2.2.2.1, k.2.2.2.2.trans h.2.2.2.2⟩
theorem keepTwo_set (W : World) (X i : Nat) (v : Value) : KeepTwo W (W.setCell ⟨X, i, none⟩ v) X X := ⟨by simp, fun k _ h _ => Below.heap_setCell W ⟨X, i, none⟩ v k h, rfl, rfl, rfl⟩
section
variable {F : Fence} {n : Nat} {P : Program}
theorem rangeFunc_row {α : Type} {g : Operand} {ps : Array Tmp} {assign body : Code} {Q : Exit → Act → World → Prop} {a : Act} {w : World}
    (hro : F.round = none) (h1 : 1 ≤ n) {gf : Nat} {lb : Array Value} (hg : a.eval g = .func (.func gf) #[] lb) (hFg : F.fn gf) (eg : ∀ args w, (callFunc gf args).run P w = .ok (.enter gf args) w)
    {encs : α → Array Value} {prot : Nat → Prop} {xs : List α} (hseq : SeqRow F (n - 1) P gf lb encs prot xs w) (hprot : ∀ k, prot k → k < w.heap.size) (hps : ∀ x, (encs x).size = ps.size)
    (I : List α → World → Prop) (Ix : Code → List α → World → Prop)
    (hI : ∀ s A B, I s A → KeepTwo A B (w.heap.size + 1) (w.heap.size + 2) → I s B) (hIx : ∀ c s A B, Ix c s A → KeepTwo A B (w.heap.size + 1) (w.heap.size + 2) → Ix c s B) (h0 : I [] w) (a₁ : α → Act)
    (hassign : ∀ (l : Nat) (x : α) (W : World) (K : Act → World → Prop), K (a₁ x) W →
      assign.wpIn (F.inRound l) (n - 1 - 1) P (Exit.then K (fun _ _ _ => False)) { tmps := (ps.zip (encs x)).foldl (fun t (p, v) => t.setIfInBounds p v) a.tmps, defers := [] } W)
    (hbody : ∀ (l : Nat) (pre : List α) (x : α) (W : World), I pre W → pre ++ [x] <+: xs → w.heap.size + 2 < W.heap.size → body.wpIn (F.inRound l) (n - 1 - 1) P (rowPost prot (w.heap.size + 2) I Ix (pre ++ [x]) W) (a₁ x) W)
    (hdone : ∀ (D : Nat) (W : World), D = w.heap.size → I xs W → W.heap[D]? = some (.deferred (some [])) → Q .normal { a with defers := { target := .collected D, args := #[] } :: a.defers } W)
    (hstop : ∀ (D : Nat) (c : Code) (pre : List α) (W : World), D = w.heap.size → pre <+: xs → Ix c pre W → W.heap[D]? = some (.deferred (some [])) → c.wpIn F n P Q { a with defers := { target := .collected D, args := #[] } :: a.defers } W) :
    (Code.rangeFunc g ps assign body).wpIn F n P Q a w := by
  refine wpIn_rangeFunc ?_
  intro fn hfn
  rw [hro]
  obtain ⟨rec, hrec⟩ : ∃ rec : LoopState → Option Code → Loop, rec = fun st pe => { state := st, pending := pe, fn, tmps := a.tmps, params := ps, assign, body, defers := w.heap.size } := ⟨_, rfl⟩
  obtain ⟨W1, hW1⟩ : ∃ W1, (w.alloc (.deferred (some []))).alloc (.loop (rec .ready none)) = W1 := ⟨_, rfl⟩
  have hs1 : W1.heap.size = w.heap.size + 2 := by rw [← hW1]; simp
  have hL1 : W1.heap[w.heap.size + 1]? = some (.loop (rec .ready none)) := by
    rw [← hW1]; have := World.alloc_heap_new (w.alloc (.deferred (some []))) (.loop (rec .ready none)); rwa [World.size_alloc] at this
  have hK1 : W1.heap[w.heap.size]? = some (.deferred (some [])) := by
    rw [← hW1]; exact (Below.heap_alloc _ _ _ (by simp)).trans (World.alloc_heap_new w _)
  have hI1 : I [] W1 := by rw [← hW1]; exact hI _ _ _ (hI _ _ _ h0 (keepTwo_alloc _ _ _ _)) (keepTwo_alloc _ _ _ _)
  have hb1 : ∀ k, k < w.heap.size → W1.heap[k]? = w.heap[k]? := fun k hk => by
    rw [← hW1]; exact (Below.heap_alloc _ _ k (by simp; omega)).trans (Below.heap_alloc w _ k hk)
  refine ⟨w.heap.size + 1, [{ target := .collected w.heap.size, args := #[] }], W1, { target := .fn (.func gf) lb, args := #[.func (.yield (w.heap.size + 1)) #[] #[]] }, W1, gf,
    #[.func (.yield (w.heap.size + 1)) #[] #[]] ++ lb, W1, ?_, ?_, ?_, ?_, fun _ => h1, ?_⟩
  · rw [← hW1, hrec]; exact run_enterLoop_outer _ _ _ _ _
  · simp only [resolve, hg]
    simp [go_sem]
  · intro f' hf'; simp [Target.leads] at hf'; subst hf'; exact hFg
  · simp [invoke, go_sem, eg]
  · have lift : ∀ {A B : World} {i : Nat} {o : Obj}, KeepTwo A B W1.heap.size W1.heap.size → i < W1.heap.size → A.heap[i]? = some o → B.heap[i]? = some o := fun hk hi h => (hk.2.1 _ (Array.getElem?_eq_some_iff.1 h).1 (by omega) (by omega)).trans h
    refine (hseq (w.heap.size + 1)
      (fun pre W => I pre W ∧ W.heap[w.heap.size + 1]? = some (.loop (rec .ready none)) ∧ W.heap[w.heap.size]? = some (.deferred (some [])) ∧ w.heap.size + 2 ≤ W.heap.size)
      (fun pre W => ∃ c, Ix c pre W ∧ W.heap[w.heap.size + 1]? = some (.loop (rec .done (some c))) ∧ W.heap[w.heap.size]? = some (.deferred (some [])))
      W1 (by omega) hb1
      (fun s A B hs hk => ⟨hI s A B hs.1 (by have := keepTwo_one hk (w.heap.size + 1); rwa [hs1] at this), lift hk (by omega) hs.2.1, lift hk (by omega) hs.2.2.1, Nat.le_trans hs.2.2.2 hk.1⟩)
      (fun s A B hs hk => by
        obtain ⟨c, hc, hl, hkk⟩ := hs
        exact ⟨c, hIx c s A B hc (by have := keepTwo_one hk (w.heap.size + 1); rwa [hs1] at this), lift hk (by omega) hl, lift hk (by omega) hkk⟩)
      ?_ ⟨hI1, hL1, hK1, by omega⟩).mono ?_
    · rintro pre x W ⟨hi, hl, hk, _⟩ hpre hsz
      have hlt : w.heap.size + 1 < W.heap.size := (Array.getElem?_eq_some_iff.1 hl).1
      have hy := run_yield (P := P) (args := encs x) hl (by rw [hrec]; exact hps x)
      rw [hrec] at hy
      refine ⟨fn, _, assign, body, hy, roundIn_of_wpIn hfn (hassign _ x W _ ⟨_, run_beginRound hl (by rw [hrec]), ?_⟩)⟩
      have hl2 : (W.putObj (w.heap.size + 1) (.loop { rec .ready none with state := .busy })).heap[w.heap.size + 1]? = some (.loop { rec .ready none with state := .busy }) := World.putObj_heap_same hlt
      have hk2 : (W.putObj (w.heap.size + 1) (.loop { rec .ready none with state := .busy })).heap[w.heap.size]? = some (.deferred (some [])) := (World.putObj_heap_other (by omega)).trans hk
      refine wpIn_mono (hbody _ pre x _ (hI _ _ _ hi (keepTwo_put _ _ _ _)) hpre (by simp; omega)) ?_
      have fin : ∀ (jump : Option Code) (W3 : World), KeepsOthers (W.putObj (w.heap.size + 1) (.loop { rec .ready none with state := .busy })) W3 →
          (Instr.endRound (w.heap.size + 1) jump).run P W3 = .ok (.bool jump.isNone) (W3.putObj (w.heap.size + 1) (.loop (rec (if jump.isNone then .ready else .done) jump))) ∧
          W3.heap[w.heap.size + 1]? = some (.loop { rec .ready none with state := .busy }) ∧
          (W3.putObj (w.heap.size + 1) (.loop (rec (if jump.isNone then .ready else .done) jump))).heap[w.heap.size + 1]? = some (.loop (rec (if jump.isNone then .ready else .done) jump)) ∧
          (W3.putObj (w.heap.size + 1) (.loop (rec (if jump.isNone then .ready else .done) jump))).heap[w.heap.size]? = some (.deferred (some [])) := fun jump W3 hk3 => by
        have hl3 := hk3.same _ _ hl2 rfl
        have := run_endRound (P := P) jump hl3
        rw [hrec] at this ⊢
        exact ⟨this, by rw [hrec] at hl3; exact hl3, World.putObj_heap_same (Array.getElem?_eq_some_iff.1 hl3).1, (World.putObj_heap_other (by omega)).trans (hk3.same _ _ hk2 rfl)⟩
      rintro e a3 W3 hp
      cases e with
      | normal =>
        obtain ⟨hk3, hkp3, hi3⟩ := hp
        obtain ⟨hr, hl3, hl4, hk4⟩ := fin none W3 hk3
        refine ⟨_, _, hr, .inl ⟨rfl, ⟨hI _ _ _ hi3 (keepTwo_put _ _ _ _), hl4, hk4, ?_⟩, ?_, fun k hk' => ?_⟩⟩
        · have := hkp3.1
          simp at this ⊢
          omega
        · have := hkp3.1
          simp at this ⊢
          omega
        · have hne : k ≠ w.heap.size + 1 := by
            rcases hk' with h | h
            · omega
            · have := hprot k h
              omega
          exact (World.putObj_heap_other hne).trans ((hkp3.2 k (by rw [← hs1]; exact hk')).trans (World.putObj_heap_other hne))
      | ret =>
        obtain ⟨hk3, hi3⟩ := hp
        obtain ⟨hr, hl3, hl4, hk4⟩ := fin (some .ret) W3 hk3
        exact ⟨_, _, hr, .inr ⟨rfl, .ret, hIx _ _ _ _ hi3 (keepTwo_put _ _ _ _), hl4, hk4⟩⟩
      | exit id =>
        obtain ⟨hk3, hi3⟩ := hp
        obtain ⟨hr, hl3, hl4, hk4⟩ := fin (some (.exit id)) W3 hk3
        exact ⟨_, _, hr, .inr ⟨rfl, .exit id, hIx _ _ _ _ hi3 (keepTwo_put _ _ _ _), hl4, hk4⟩⟩
      | goto t =>
        obtain ⟨hk3, hi3⟩ := hp
        obtain ⟨hr, hl3, hl4, hk4⟩ := fin (some (.goto t)) W3 hk3
        exact ⟨_, _, hr, .inr ⟨rfl, .goto t, hIx _ _ _ _ hi3 (keepTwo_put _ _ _ _), hl4, hk4⟩⟩
      | panic ch => exact hp.elim
      | outgrown => exact hp.elim
    · rintro e W2 ⟨⟨v, rfl⟩, (⟨hi, hl, hk, _⟩ | ⟨pre, hSp, c, hi, hl, hk⟩)⟩
      · exact ⟨none, _, by have := run_endLoop (P := P) hl (by rw [hrec]; simp); rw [hrec] at this; exact this, hdone _ _ rfl (hI _ _ _ hi (keepTwo_put _ _ _ _)) ((World.putObj_heap_other (by omega)).trans hk)⟩
      · exact ⟨some c, _, by have := run_endLoop (P := P) hl (by rw [hrec]; simp); rw [hrec] at this; exact this, hstop _ c pre _ rfl hSp (hIx c _ _ _ hi (keepTwo_put _ _ _ _)) ((World.putObj_heap_other (by omega)).trans hk)⟩
end
/-- A round's step of the index, from the last axis on. -/
def spotIn (ds ss : List Int) : Nat → List Int → Int → Bool × List Int × Int
  | 0, ix, at_ => (false, ix, at_)
  | j + 1, ix, at_ => if wrap64 (rd ix (j : Int) + 1) < rd ds (j : Int) then (true, ix.set j (wrap64 (rd ix (j : Int) + 1)), wrap64 (at_ + rd ss (j : Int))) else spotIn ds ss j (ix.set j 0) (wrap64 (wrap64 (at_ + rd ss (j : Int)) - wrap64 (rd ss (j : Int) * rd ds (j : Int))))
/-- The places that come, one behind the other. -/
def spotsF (ds ss : List Int) : Nat → List Int → Int → Option (List Int)
  | 0, _, _ => none
  | k + 1, ix, at_ => if (spotIn ds ss ds.length ix at_).1 = true then (spotsF ds ss k (spotIn ds ss ds.length ix at_).2.1 (spotIn ds ss ds.length ix at_).2.2).bind fun t => some (at_ :: t) else some [at_]
theorem spotsF_mono (ds ss : List Int) : ∀ k ix a, LeO (spotsF ds ss k ix a) (spotsF ds ss (k + 1) ix a)
  | 0, _, _ => fun r h => by simp [spotsF] at h
  | k + 1, ix, a => by
    simp only [spotsF]
    exact LeO.ite (LeO.bind (spotsF_mono ds ss k _ _) (fun _ => LeO.refl _)) (LeO.refl _)
theorem spotIn_len (ds ss : List Int) : ∀ j ix a, (spotIn ds ss j ix a).2.1.length = ix.length
  | 0, _, _ => rfl
  | j + 1, ix, a => by
    simp only [spotIn]
    split
    · simp
    · rw [spotIn_len]
      simp
/-- By the code: is a place hit twice. -/
def twF : List Bool → List Int → Bool
  | _, [] => false
  | m, p :: ps => if rdOf false m p = true then true else twF (m.set p.toNat true) ps
end
def impl_Twice.f (k : Nat) (l0_0 : List Int) (l0_1 : List Int) (a0_2 : Int) (a0_3 : Int) : Option Bool :=
  (impl_ViewOk.f k l0_0 l0_1 a0_2 a0_3).bind fun t => if t = true then (if (l0_0.length ≤ l0_1.length ∧ l0_0.length ≤ 1000) ∧ 0 ≤ a0_3 ∧ a0_3 ≤ 1000000 then (spotsF l0_0 l0_1 k (List.replicate l0_0.length 0) a0_2).bind fun xs => if (∀ p ∈ xs, 0 ≤ p ∧ p < a0_3) then some (twF (List.replicate a0_3.toNat false) xs) else none else none) else some false
theorem impl_Twice.mono : ∀ a0 a1 a2 a3 k, LeO (impl_Twice.f k a0 a1 a2 a3) (impl_Twice.f (k + 1) a0 a1 a2 a3) := by
  intro a0 a1 a2 a3 k
  unfold impl_Twice.f
  repeat' first
      | (with_reducible exact impl_ViewOk.mono _ _ _ _ _)
      | (with_reducible exact spotsF_mono _ _ _ _ _)
      | (with_reducible exact LeO.refl _)
      | (with_reducible exact LeO.none _)
      | (with_reducible refine LeO.ite ?_ ?_)
      | (with_reducible refine LeO.bind ?_ (fun _ => ?_))
section
attribute [local go_sem] Oper.semAt_some
attribute [local go_sem] Oper.semAt_some
set_option maxHeartbeats 4000000 in
set_option maxRecDepth 100000 in
theorem spots1_in (n : Nat) (hn : 1 ≤ n) (l q1 q2 q3 : Nat) (A0 A1 : Option Addr) (c0 c1 k : Nat) (ds ss xs : List Int) (off : Int) (prot : Nat → Prop) (wT : World)
    (hr0 : Kd.C (Kd.int .i64) wT A0 ds.length ds) (hr1 : Kd.C (Kd.int .i64) wT A1 ss.length ss) (hl : ds.length ≤ ss.length) (hl2 : ds.length ≤ 1000)
    (hprot : ∀ g, g < wT.heap.size ∨ g = q1 ∨ g = q2 ∨ g = q3 → prot g) (hxs : spotsF ds ss k (List.replicate ds.length 0) off = some xs)
    (J Jx : List Int → World → Prop) (W : World) (hW : ∀ g, g < wT.heap.size → W.heap[g]? = wT.heap[g]?) (hlt : ∀ g, prot g → g < W.heap.size)
    (kk1 : W.heap[q1]? = some (.cells #[.slice A0 ds.length c0] 41 (0, 0))) (kk2 : W.heap[q2]? = some (.cells #[.int .i64 off] 3 (0, 0))) (kk3 : W.heap[q3]? = some (.cells #[.slice A1 ss.length c1] 41 (0, 0)))
    (hJ : ∀ s A B, J s A → KeepTwo A B W.heap.size W.heap.size → J s B) (hJx : ∀ s A B, Jx s A → KeepTwo A B W.heap.size W.heap.size → Jx s B)
    (hY : ∀ pre x W1, J pre W1 → pre ++ [x] <+: xs → W.heap.size < W1.heap.size → YieldAt Fence.wide (n - 1) Try.prog l #[.int .i64 x] W1 fun e W' =>
      (e = .returned (.bool true) ∧ J (pre ++ [x]) W' ∧ RoundKeeps prot W.heap.size W1 W') ∨ (e = .returned (.bool false) ∧ Jx (pre ++ [x]) W'))
    (h0 : J [] W) :
    CallsIn Fence.wide n Try.prog 90 #[.func (.yield l) #[] #[], .pointer (some ⟨q1, 0, none⟩), .pointer (some ⟨q2, 0, none⟩), .pointer (some ⟨q3, 0, none⟩)] W fun e W' => (∃ v, e = .returned v) ∧ (J xs W' ∨ ∃ pre, pre <+: xs ∧ Jx pre W') := by
  have k1 : W.cell? ⟨q1, 0, none⟩ = some (.slice A0 ds.length c0) := (blk_cell kk1 0).trans rfl
  have k2 : W.cell? ⟨q2, 0, none⟩ = some (.int .i64 off) := (blk_cell kk2 0).trans rfl
  have hmk := print_make_int (P := Try.prog) 41 3 (.int .i64 0) 8 Try.underlying41 info3 rfl (by decide) (ds.length : Int) (by omega) (by omega)
  have hown := own_made' W W.heap.size 3 .i64 ds.length (Nat.le_refl _) (by omega)
  have hl1 : W.heap.size + 1 = (W.alloc (.cells (madeCells #[.int .i64 0] ds.length) 3)).heap.size := by simp
  obtain ⟨W1, hW1⟩ : ∃ W1, W1 = W.alloc (.cells (madeCells #[.int .i64 0] ds.length) 3) := ⟨_, rfl⟩
  rw [Int.toNat_natCast] at hmk
  have hmk1 := hmk W
  rw [← hW1] at hmk1 hown hl1
  have blk1 : ∀ (g : Nat) (o : Obj), W.heap[g]? = some o → W1.heap[g]? = some o := fun g o h => by rw [hW1]; exact blk_alloc h _
  have k2' : W1.cell? ⟨q2, 0, none⟩ = some (.int .i64 off) := (blk_cell (blk1 _ _ kk2) 0).trans rfl
  have hR : Kd.R (Kd.int .i64) 3 W1 W.heap.size (fun g => g = W.heap.size) (.slice (some ⟨W.heap.size, 0, none⟩) ds.length ds.length) (List.replicate ds.length 0) :=
    Kd.R_of_own (by exact hown) (fun g hg => by simpa [Value.ownBlock] using hg.symm)
  have hKT : KeepTwo W W1 W.heap.size W.heap.size := by rw [hW1]; exact keepTwo_alloc _ _ _ _
  have hJ1 := hJ _ _ _ h0 hKT
  clear hmk hown h0 hW1
  have HR0 := Aside0.mk hr0
  have HR1 := Aside0.mk hr1
  have HL := Aside0.mk (And.intro hl hl2)
  have HX := Aside0.mk hxs
  have HJ := Aside0.mk hJ
  have HJX := Aside0.mk hJx
  have HY := Aside0.mk hY
  have HRI := Aside0.mk hR
  have HJ1 := Aside0.mk hJ1
  have HP := Aside0.mk (And.intro hprot hlt)
  have HW := Aside0.mk hW
  have KK := Aside0.mk (And.intro (blk1 _ _ kk1) (And.intro (blk1 _ _ kk2) (blk1 _ _ kk3)))
  have KW := Aside0.mk (show (∀ g, prot g → W1.heap[g]? = W.heap[g]?) from fun g hg => hKT.2.1 g (hlt g hg) (Nat.ne_of_lt (hlt g hg)) (Nat.ne_of_lt (hlt g hg)))
  have HS1 := Aside0.mk hl1
  clear hr0 hr1 hl hl2 hxs hJ hJx hY hR hJ1 hprot hlt hW kk1 kk2 kk3 blk1 hKT hl1
  refine callsIn_of_wp Try.func90 rfl trivial ?_ rfl
  simp only [Try.ntmps90, List.size_toArray, List.length_cons, List.length_nil, Nat.reduceAdd, Nat.reduceSub, Array.replicate_succ, Array.replicate_zero, List.push_toArray, List.append_toArray, List.nil_append, List.cons_append]
  gi_wp2
  clear k1 k2 k2' hmk1
  gi_loopg [6] k (fun kq va wr => ∃ (pre ix ys : List Int) (a : Int), va = .int .i64 a ∧ Aside0 (spotsF ds ss kq ix a = some ys ∧ pre ++ ys = xs ∧ ix.length = ds.length) ∧ Aside0 (Kd.R (Kd.int .i64) 3 wr W.heap.size (fun g => g = W.heap.size) (.slice (some ⟨W.heap.size, 0, none⟩) ds.length ds.length) ix) ∧ Aside0 (∀ g, prot g → wr.heap[g]? = W1.heap[g]?) ∧ Aside0 (J pre wr ∧ W.heap.size < wr.heap.size))
  case atStart => exact ⟨[], List.replicate ds.length 0, xs, off, rfl, ⟨HX.out, rfl, by simp⟩, HRI, ⟨fun g _ => rfl⟩, ⟨HJ1.out, by have := HS1.out; omega⟩⟩
  case round =>
    clear HX HRI HJ1
    obtain ⟨pre, ix, ys, a, rfl, HS, HO, HG, HJJ⟩ := hrel
    cases gk with
    | zero => exact absurd HS.out.1 (by simp [spotsF])
    | succ kq =>
      obtain ⟨⟨b, ix', a'⟩, hst⟩ : ∃ r, r = spotIn ds ss ds.length ix a := ⟨_, rfl⟩
      obtain ⟨zs, hzs⟩ : ∃ zs, ys = a :: zs := by
        have h := HS.out.1
        simp only [spotsF] at h
        split at h
        · obtain ⟨t, _, h2⟩ := Option.bind_eq_some_iff.mp h
          exact ⟨t, (Option.some.inj h2).symm⟩
        · exact ⟨[], (Option.some.inj h).symm⟩
      have hpx : pre ++ [a] <+: xs := ⟨zs, by have := HS.out.2.1; rw [hzs] at this; simpa using this⟩
      obtain ⟨fn, tmps, assign, body, hy, hR⟩ := HY.out pre a wr HJJ.out.1 hpx HJJ.out.2
      have HST := Aside0.mk hst
      have HPX := Aside0.mk hpx
      have HZ := Aside0.mk hzs
      clear hst hpx hzs
      gi_wp2
      refine hR.mono ?_
      rintro e W3 (⟨rfl, hJ3, hk3⟩ | ⟨rfl, hJx3⟩)
      · have HJ3 := Aside0.mk (And.intro hJ3 (Nat.lt_of_lt_of_le HJJ.out.2 hk3.1))
        have HO3 := Aside0.mk (Kd.R_step HO.out (fun g hg _ => hk3.2 g (.inl hg)))
        have HG3 := Aside0.mk (show (∀ g, prot g → W3.heap[g]? = W1.heap[g]?) from fun g hg => (hk3.2 g (.inr hg)).trans (HG.out g hg))
        have k1 : W3.cell? ⟨q1, 0, none⟩ = some (.slice A0 ds.length c0) := (blk_cell ((HG3.out q1 (HP.out.1 q1 (.inr (.inl rfl)))).trans KK.out.1) 0).trans rfl
        clear hJ3 hk3 hR hy
        have HB : Aside0 ((b = true → spotsF ds ss kq ix' a' = some zs ∧ ix'.length = ds.length) ∧ (b = false → zs = [])) := ⟨by
          have h := HS.out.1
          have hl := spotIn_len ds ss ds.length ix a
          rw [HZ.out] at h
          simp only [spotsF] at h
          rw [← HST.out] at h hl
          cases b with
          | true =>
            rw [if_pos rfl] at h
            obtain ⟨t, h1, h2⟩ := Option.bind_eq_some_iff.mp h
            have h3 : zs = t := by simpa using (Option.some.inj h2).symm
            exact ⟨fun _ => ⟨by rw [h3]; exact h1, by rw [← HS.out.2.2]; exact hl⟩, fun z => (by cases z)⟩
          | false =>
            rw [if_neg (by simp)] at h
            exact ⟨fun z => (by cases z), fun _ => by simpa using (Option.some.inj h).symm⟩⟩
        have hwn : wrap64 ((ds.length : Int) - 1) = (ds.length : Int) - 1 := by have := HL.out; unfold wrap64; omega
        gi_wp2
        clear k1
        have HWN := Aside0.mk hwn
        clear hwn
        gi_loopg [6, 7] ds.length (fun kj va vi wj => ∃ (jx : List Int) (c i : Int), va = .int .i64 c ∧ vi = .int .i64 i ∧ Aside0 (0 ≤ i + 1 ∧ (i + 1).toNat = kj ∧ kj ≤ ds.length) ∧ Aside0 (spotIn ds ss (i + 1).toNat jx c = (b, ix', a') ∧ jx.length = ds.length) ∧ Aside0 (Kd.R (Kd.int .i64) 3 wj W.heap.size (fun g => g = W.heap.size) (.slice (some ⟨W.heap.size, 0, none⟩) ds.length ds.length) jx) ∧ Aside0 (∀ g, prot g → wj.heap[g]? = W1.heap[g]?) ∧ Aside0 (J (pre ++ [a]) wj ∧ W.heap.size < wj.heap.size))
        case atStart =>
          exact ⟨ix, a, (ds.length : Int) - 1, rfl, (by rw [HWN.out]), ⟨by omega, by omega, by omega⟩, ⟨by rw [show ((ds.length : Int) - 1 + 1).toNat = ds.length by omega]; exact HST.out.symm, HS.out.2.2⟩, HO3, HG3, HJ3⟩
        case round =>
          clear HO3 HG3 HJ3
          obtain ⟨jx, c, i, rfl, rfl, HI, HIN, HOJ, HGJ, HJJ'⟩ := hrel
          by_cases hi : 0 ≤ i
          · have i1 : i < (ds.length : Int) := by have := HI.out; omega
            have hib : decide (0 ≤ i) = true := decide_eq_true hi
            have hib2 : decide (i < 0) = false := decide_eq_false (by omega)
            have hsp := HIN.out.1
            rw [show (i + 1).toNat = i.toNat + 1 by omega] at hsp
            simp only [spotIn] at hsp
            rw [Int.toNat_of_nonneg hi] at hsp
            obtain ⟨ad0, e0, y0T⟩ := Kd.at_int HR0.out i hi i1
            cases e0
            obtain ⟨ad1, e1, y1T⟩ := Kd.at_int HR1.out i hi (by have := HL.out; omega)
            cases e1
            have HYT := Aside0.mk (And.intro y0T y1T)
            clear y0T y1T
            obtain ⟨x0', f0⟩ := Kd.R_celln 0 HOJ.out i hi i1
            have x0 : wr.cell? ⟨W.heap.size, i.toNat, none⟩ = some (.int .i64 (rd jx i)) := x0'
            clear x0'
            have i2 : i < (ss.length : Int) := by have := HL.out; omega
            have hw1 : wrap64 (i - 1) = i - 1 := by have := HL.out; unfold wrap64; omega
            have HI' := Aside0.mk (And.intro hi (And.intro i1 hw1))
            -- what is known behind a store into the row of the iterator
            have put5 : Aside0 (∀ (wq : World) (jq : List Int) (v : Int), Kd.R (Kd.int .i64) 3 wq W.heap.size (fun g => g = W.heap.size) (.slice (some ⟨W.heap.size, 0, none⟩) ds.length ds.length) jq → (∀ g, prot g → wq.heap[g]? = W1.heap[g]?) → J (pre ++ [a]) wq ∧ W.heap.size < wq.heap.size →
                ∀ W5, wq.setCell ⟨W.heap.size, i.toNat, none⟩ (.int .i64 v) = W5 → Kd.R (Kd.int .i64) 3 W5 W.heap.size (fun g => g = W.heap.size) (.slice (some ⟨W.heap.size, 0, none⟩) ds.length ds.length) (jq.set i.toNat v) ∧ (∀ g, prot g → W5.heap[g]? = W1.heap[g]?) ∧ J (pre ++ [a]) W5 ∧ W.heap.size < W5.heap.size) := ⟨by
              rintro wq jq v h1 h2 h3 W5 rfl
              exact ⟨Kd.R_putn h1 i v, fun g hg => (Below.heap_setCell wq ⟨W.heap.size, i.toNat, none⟩ _ g (Nat.ne_of_lt (HP.out.2 g hg))).trans (h2 g hg), HJ.out _ _ _ h3.1 (keepTwo_set _ _ _ _), by simp; exact h3.2⟩⟩
            have drew5 : Aside0 (∀ (wq : World) (m : Nat), (J (pre ++ [a]) wq ∧ W.heap.size < wq.heap.size) → J (pre ++ [a]) (wq.drewN m) ∧ W.heap.size < (wq.drewN m).heap.size) := ⟨fun wq m h => ⟨HJ.out _ _ _ h.1 (keepTwo_drewN _ _ _ _), h.2⟩⟩
            have lift : Aside0 (∀ (wq : World) (ad : Addr) (v : Value), (∀ g, prot g → wq.heap[g]? = W1.heap[g]?) → wT.cell? ad = some v → wq.cell? ad = some v) := ⟨fun wq ad v hq h => by
              have hb := World.block_lt_of_cell? wT _ h
              exact (World.cell?_of_block ((hq ad.block (HP.out.1 ad.block (.inl hb))).trans ((KW.out ad.block (HP.out.1 ad.block (.inl hb))).trans (HW.out ad.block hb)))).trans h⟩
            by_cases hc : wrap64 (rd jx i + 1) < rd ds i
            · rw [if_pos hc] at hsp
              simp only [Prod.mk.injEq] at hsp
              have HSP := Aside0.mk hsp
              clear hsp
              have hcb : decide (wrap64 (rd jx i + 1) < rd ds i) = true := decide_eq_true hc
              gi_upto_region 7 with fail
              generalize hW5 : World.setCell _ _ _ = W5
              obtain ⟨HO5, HG5, HJ5⟩ := put5.out wr jx _ HOJ.out HGJ.out HJJ'.out W5 hW5
              have k1 : W5.cell? ⟨q1, 0, none⟩ = some (.slice (some ad0) ds.length c0) := (blk_cell ((HG5 q1 (HP.out.1 q1 (.inr (.inl rfl)))).trans KK.out.1) 0).trans rfl
              have k3 : W5.cell? ⟨q3, 0, none⟩ = some (.slice (some ad1) ss.length c1) := (blk_cell ((HG5 q3 (HP.out.1 q3 (.inr (.inr (.inr rfl))))).trans KK.out.2.2) 0).trans rfl
              have y0 := lift.out W5 _ _ HG5 HYT.out.1
              have y1 := lift.out W5 _ _ HG5 HYT.out.2
              obtain ⟨x5, f5⟩ := Kd.R_celln 0 HO5 i hi i1
              have e5 : rdOf 0 (jx.set i.toNat (wrap64 (rd jx i + 1))) i = wrap64 (rd jx i + 1) := by
                unfold rdOf
                rw [List.getD_eq_getElem?_getD, List.getElem?_set_self (by have := HIN.out.2; omega), Option.getD_some]
              rw [e5] at x5
              have HO5' := Aside0.mk HO5
              have HG5' := Aside0.mk HG5
              have HJ5' := Aside0.mk HJ5
              clear hW5 HO5 HG5 HJ5 x0 f0 e5
              gi_wp2
              gi_quiet (fail)
              gi_wp2
              gi_roundg kq
              case measure => omega
              case rel =>
                obtain ⟨e1, e2, e3⟩ := HSP.out
                have hb := HB.out.1 e1.symm
                refine ⟨pre ++ [a], ix', zs, a', (by rw [e3]), ⟨hb.1, ?_, hb.2⟩, ⟨?_⟩, ⟨HG5'.out⟩, ⟨?_⟩⟩
                · have := HS.out.2.1
                  rw [HZ.out] at this
                  simpa using this
                · rw [← e2]
                  exact Kd.R_drewN HO5'.out _
                · exact drew5.out _ _ HJ5'.out
            · rw [if_neg hc] at hsp
              have HSP := Aside0.mk hsp
              clear hsp
              have hcb : decide (wrap64 (rd jx i + 1) < rd ds i) = false := decide_eq_false hc
              gi_upto_region 7 with fail
              generalize hW5 : World.setCell _ _ _ = W5
              obtain ⟨HO5, HG5, HJ5⟩ := put5.out wr jx _ HOJ.out HGJ.out HJJ'.out W5 hW5
              have k1 : W5.cell? ⟨q1, 0, none⟩ = some (.slice (some ad0) ds.length c0) := (blk_cell ((HG5 q1 (HP.out.1 q1 (.inr (.inl rfl)))).trans KK.out.1) 0).trans rfl
              have k3 : W5.cell? ⟨q3, 0, none⟩ = some (.slice (some ad1) ss.length c1) := (blk_cell ((HG5 q3 (HP.out.1 q3 (.inr (.inr (.inr rfl))))).trans KK.out.2.2) 0).trans rfl
              have y0 := lift.out W5 _ _ HG5 HYT.out.1
              have y1 := lift.out W5 _ _ HG5 HYT.out.2
              obtain ⟨x5, f5⟩ := Kd.R_celln 0 HO5 i hi i1
              have e5 : rdOf 0 (jx.set i.toNat (wrap64 (rd jx i + 1))) i = wrap64 (rd jx i + 1) := by
                unfold rdOf
                rw [List.getD_eq_getElem?_getD, List.getElem?_set_self (by have := HIN.out.2; omega), Option.getD_some]
              rw [e5] at x5
              have HO5' := Aside0.mk HO5
              have HG5' := Aside0.mk HG5
              have HJ5' := Aside0.mk HJ5
              clear hW5 HO5 HG5 HJ5 x0 f0 e5
              gi_wp2
              gi_quiet (fail)
              gi_wp2
              gi_quiet (fail)
              gi_wp2
              have hkj : (i - 1 + 1).toNat = i.toNat := by omega
              gi_roundg i.toNat
              case measure => have := HI.out; omega
              case rel =>
                generalize hW6 : World.setCell _ _ _ = W6
                obtain ⟨HO6, HG6, HJ6⟩ := put5.out (W5.drewN _) _ _ (Kd.R_drewN HO5'.out _) HG5'.out (drew5.out _ _ HJ5'.out) W6 hW6
                rw [List.set_set] at HO6
                refine ⟨jx.set i.toNat 0, _, i - 1, rfl, (by rw [HI'.out.2.2]), ⟨by omega, hkj, by have := HI.out; omega⟩, ⟨by rw [hkj]; exact HSP.out, by rw [List.length_set]; exact HIN.out.2⟩, ⟨HO6⟩, ⟨HG6⟩, ⟨HJ6⟩⟩
          · have hi1 : i = -1 := by have := HI.out; omega
            subst hi1
            have hsp := HIN.out.1
            simp only [show ((-1 : Int) + 1).toNat = 0 from rfl, spotIn, Prod.mk.injEq] at hsp
            obtain ⟨rfl, rfl, rfl⟩ := hsp
            have HZ0 := HB.out.2 rfl
            gi_wp2
            refine bodyPost_ret (results_none rfl _ _ _) rfl ?_
            refine ⟨⟨_, rfl⟩, .inl ?_⟩
            have h := HS.out.2.1
            rw [HZ.out, HZ0] at h
            rw [← h]
            exact HJJ'.out.1
      · clear hR hy
        gi_wp2
        refine bodyPost_ret (results_none rfl _ _ _) rfl ?_
        exact ⟨⟨_, rfl⟩, .inr ⟨pre ++ [a], HPX.out, hJx3⟩⟩
section
variable {F : Fence} {n : Nat} {P : Program} {ops : Array Oper} {rest : List Oper} {o : Oper} {a : Act} {Q : Exit → Act → World → Prop} {W : World}
/-- append(v, p) in a fence, over a row of one's own; the goal's world is that in which the literal of one lies. -/
theorem R_append_in (d : Kd Int) (hd : d = Kd.int .i64) (base : Nat) (hgd : o.guard = none) (s x : Operand) (t e : TypeId)
    (ho : o.op = .call { callee := .builtin .append, args := #[s, x], argTypes := #[t, t] })
    (ht : P.underlying t = some (.slice e)) (hinfo : (P.info? e).map (fun i => (i.zero, i.size, i.bytes)) = some (some (.int .i64 0), 1, 8))
    (v : Value) (xs : List Int) (p : Int) (ok : Nat → Prop) (hs : a.eval s = v) (hx : a.eval x = .slice (some ⟨W.heap.size, 0, none⟩) 1 1) (hfresh : ∀ k, W.heap.size ≤ k → ok k)
    (HO : (Kd.int .i64).R e W base ok v xs) (hbase : base ≤ W.heap.size) (hl : (xs.length + 1) * 8 ≤ 140737488355328)
    (h : ∀ v1 w1, (Kd.int .i64).R e w1 base ok v1 (xs ++ [p]) → W.grownBy w1 v.ownBlock → wpListIn F n P ops Q rest (a.put o.dst v1) w1) :
    wpListIn F n P ops Q (o :: rest) a (W.alloc (.cells #[.int .i64 p] e)) := by
  obtain ⟨h0, inner, hown, hr⟩ := HO
  obtain ⟨i0, hi, hz0, hz1, hz2⟩ := info_parts hinfo
  refine wpListIn_plain hgd fun K hK' => ?_
  obtain ⟨v1, w1, hrun, r1, r2, _, r4⟩ := run_append_own_at (P := P) (w := W.alloc (.cells #[.int .i64 p] e)) base t o.type e i0 (.int .i64 0) 1 8 ht hi hz0 hz1 hz2 rfl (by decide) v xs.length inner (hown.alloc _) ⟨W.heap.size, 0, none⟩ 1 1 [.int .i64 p] rfl
    (by simpa using World.news_of_block (cs := #[Value.int .i64 p]) (t := e) (fr := (0, 0)) (heap_alloc_new W (.cells #[.int .i64 p] e))) (by simp [Value.oneCell']) (by simp only [maxLen]; omega) hl (by simp; omega)
  have hg2 : W.grownBy w1 v.ownBlock := World.grownBy.trans (World.grownBy_alloc W _ _) r2
  have hat : v1.ownBlock = v.ownBlock ∨ ∃ b, v1.ownBlock = some b ∧ W.heap.size ≤ b := by
    rcases r4 with h | h
    · exact .inl h
    · exact .inr ⟨_, h, by simp⟩
  have hR := Kd.R_appended (d := Kd.int .i64) (okp := fun _ => False) (p := p) (cs := [.int .i64 p]) h0 hr (show [Value.int .i64 p] = [Value.int .i64 p] from rfl) (fun _ hk => hk.elim) hfresh r1 hg2 hat
  unfold Oper.wpIn
  refine ⟨?_, ?_⟩
  · simp [Oper.about, ho, resolve, Target.leads, Sem.run_pure]
  · rw [Oper.semAt_plain F _ _ (by rw [ho]; intro c hc'; cases hc')]
    simp [execOp, ho, resolve, invoke, builtin, hs, hx, hrun, Result.andThen]
    exact hK' _ _ (h v1 w1 hR hg2)
end
set_option maxHeartbeats 2000000 in
set_option maxRecDepth 100000 in
/-- spots boxes what it was told and hands the iterator back. -/
theorem spots_in (n : Nat) (u v : Value) (off : Int) (w : World) (A0 A1 : Option Addr) (m0 c0 m1 c1 : Nat) :
    CallsIn Fence.wide n Try.prog 56 #[.slice A0 m0 c0, .slice A1 m1 c1, .int .i64 off] w fun e w' => e = .returned (.func (.func 90) #[] #[.pointer (some ⟨w.heap.size, 0, none⟩), .pointer (some ⟨w.heap.size + 2, 0, none⟩), .pointer (some ⟨w.heap.size + 1, 0, none⟩)]) ∧
      w' = ((w.alloc (.cells #[.slice A0 m0 c0] 41)).alloc (.cells #[.slice A1 m1 c1] 41)).alloc (.cells #[.int .i64 off] 3) := by
  have hmf : ∀ (fn : Fn) (first cap : Array Value) (w : World), (Instr.makeFunc fn first cap).run Try.prog w = .ok (.func fn first cap) w := fun _ _ _ _ => rfl
  refine callsIn_of_wp Try.func56 rfl trivial ?_ rfl
  simp only [Try.ntmps56, List.size_toArray, List.length_cons, List.length_nil, Nat.reduceAdd, Nat.reduceSub, Array.replicate_succ, Array.replicate_zero, List.push_toArray, List.append_toArray, List.nil_append, List.cons_append]
  gi_wp2
  go_ret
  exact ⟨rfl, rfl⟩
theorem blk_alloc3 (w : World) (a b c : Obj) : (((w.alloc a).alloc b).alloc c).heap[w.heap.size]? = some a ∧ (((w.alloc a).alloc b).alloc c).heap[w.heap.size + 1]? = some b ∧ (((w.alloc a).alloc b).alloc c).heap[w.heap.size + 2]? = some c := by
  refine ⟨blk_alloc (blk_alloc (heap_alloc_new w a) _) _, ?_, ?_⟩
  · have := blk_alloc (heap_alloc_new (w.alloc a) b) c
    rwa [World.size_alloc] at this
  · have := heap_alloc_new ((w.alloc a).alloc b) c
    rwa [World.size_alloc, World.size_alloc] at this
/-- The iterator that spots hands back has its contract. -/
theorem spots_seq (n : Nat) (hn : 1 ≤ n) (A0 A1 : Option Addr) (c0 c1 k : Nat) (ds ss xs : List Int) (off : Int) (wT w : World)
    (hr0 : Kd.C (Kd.int .i64) wT A0 ds.length ds) (hr1 : Kd.C (Kd.int .i64) wT A1 ss.length ss) (hl : ds.length ≤ ss.length) (hl2 : ds.length ≤ 1000) (hw : wT.heap.size ≤ w.heap.size) (hW : ∀ g, g < wT.heap.size → w.heap[g]? = wT.heap[g]?)
    (hxs : spotsF ds ss k (List.replicate ds.length 0) off = some xs) :
    SeqRow Fence.wide n Try.prog 90 #[.pointer (some ⟨w.heap.size, 0, none⟩), .pointer (some ⟨w.heap.size + 2, 0, none⟩), .pointer (some ⟨w.heap.size + 1, 0, none⟩)] (fun x : Int => #[.int .i64 x]) (fun g => g < wT.heap.size ∨ g = w.heap.size ∨ g = w.heap.size + 1 ∨ g = w.heap.size + 2) xs
      (((w.alloc (.cells #[.slice A0 ds.length c0] 41)).alloc (.cells #[.slice A1 ss.length c1] 41)).alloc (.cells #[.int .i64 off] 3)) := by
  intro l J Jx W hs hb hJ hJx hY h0
  obtain ⟨b0, b1, b2⟩ := blk_alloc3 w (.cells #[.slice A0 ds.length c0] 41) (.cells #[.slice A1 ss.length c1] 41) (.cells #[.int .i64 off] 3)
  simp only [World.size_alloc] at hs hb
  refine spots1_in n hn l w.heap.size (w.heap.size + 2) (w.heap.size + 1) A0 A1 c0 c1 k ds ss xs off (fun g => g < wT.heap.size ∨ g = w.heap.size ∨ g = w.heap.size + 1 ∨ g = w.heap.size + 2) wT hr0 hr1 hl hl2 ?_ hxs J Jx W ?_ ?_ ?_ ?_ ?_ hJ hJx hY h0
  · intro g hg
    omega
  · intro g hg
    rw [hb g (by omega), ← hW g hg]
    exact (Below.heap_alloc _ _ g (by simp; omega)).trans ((Below.heap_alloc _ _ g (by simp; omega)).trans (Below.heap_alloc _ _ g (by omega)))
  · intro g hg
    omega
  · exact (hb _ (by omega)).trans b0
  · exact (hb _ (by omega)).trans b2
  · exact (hb _ (by omega)).trans b1
theorem results_cell1 {fn : Func} {p : Tmp} {ty : TypeId} (h : fn.results = #[.cell p ty]) (tmps : Array Value) (P : Program) (w : World) (ad : Addr) (v : Value)
    (hp : tmps.getD p undef = .pointer (some ad)) (hl : (loadVar ty ad).run P w = .ok v w) : (results fn tmps).run P w = .ok v w := by
  have hp' : tmps[p]?.getD undef = .pointer (some ad) := by simpa using hp
  simp [results, h, hp', asAddr, hl]
theorem load_bool (w : World) (ad : Addr) (b : Bool) (h : w.cell? ad = some (.bool b)) : (loadVar 4 ad).run Try.prog w = .ok (.bool b) w := by
  have hu := Try.underlying4
  first | (go_simp; done) | (simp [loadVar, isAgg, Sem.run_bind, run_underlying hu w, h]; done) | (simp [go_sem, loadVar, isAgg, run_underlying hu w, h]; trace_state; done)
set_option maxHeartbeats 4000000 in
set_option maxRecDepth 100000 in
theorem twice_in (n : Nat) (hn : 3 ≤ n) (A0 A1 : Option Addr) (c0 c1 k : Nat) (ds ss xs : List Int) (off base : Int) (w : World)
    (hr0 : Kd.C (Kd.int .i64) w A0 ds.length ds) (hc0 : ds.length ≤ c0) (hr1 : Kd.C (Kd.int .i64) w A1 ss.length ss) (hc1 : ss.length ≤ c1) (hl : ds.length ≤ ss.length) (hl2 : ds.length ≤ 1000) (hb0 : 0 ≤ base) (hb1 : base ≤ 1000000)
    (hvo : impl_ViewOk.f k ds ss off base = some true)
    (hxs : spotsF ds ss k (List.replicate ds.length 0) off = some xs) (hp : ∀ p ∈ xs, 0 ≤ p ∧ p < base) :
    CallsIn Fence.wide n Try.prog 27 #[.agg #[.slice A0 ds.length c0, .slice A1 ss.length c1, .int .i64 off, .int .i64 base]] w fun e w' => e = .returned (.bool (twF (List.replicate base.toNat false) xs)) ∧ Below w.heap.size w w' := by
  have HR0 := Aside0.mk (And.intro hr0 hc0)
  have HR1 := Aside0.mk (And.intro hr1 hc1)
  have HL := Aside0.mk (And.intro hl hl2)
  have HB0 := Aside0.mk (And.intro hb0 hb1)
  have HX := Aside0.mk hxs
  have HPB := Aside0.mk hp
  have HVO := Aside0.mk hvo
  clear hr0 hr1 hl hl2 hxs hp hc0 hc1 hvo hb0 hb1
  refine callsIn_of_wp_marks Try.func27 rfl trivial ?_ rfl
  simp only [Try.ntmps27, List.size_toArray, List.length_cons, List.length_nil, Nat.reduceAdd, Nat.reduceSub, Array.replicate_succ, Array.replicate_zero, List.push_toArray, List.append_toArray, List.nil_append, List.cons_append]
  have h1 : 1 ≤ n := by omega
  have hmk := print_make_int (P := Try.prog) 79 4 (.bool false) 1 Try.underlying79 info4 rfl (by decide) base HB0.out.1 (by have := HB0.out; omega)
  gi_wp2_with (first | (refine ⟨trivial, ?_⟩; gi_at_call 55; refine (callsIn_wide.2 (impl_ViewOk.calls k _ _ ds _ _ ss off base true _ (Kd.C_alloc (Kd.C_alloc HR0.out.1 _) _) HR0.out.2 (Kd.C_alloc (Kd.C_alloc HR1.out.1 _) _) HR1.out.2 HVO.out)).mono ?_; rintro e w' ⟨rfl, hbw⟩; have KA := Aside0.mk (show w'.heap[w.heap.size]? = some (.cells #[.slice A0 ds.length c0, .slice A1 ss.length c1, .int .i64 off, .int .i64 base] 46 (0, 0)) from (hbw.block w.heap.size (by simp; omega)).trans (blk_alloc (heap_alloc_new w _) _)); have KB := Aside0.mk (show w'.heap[w.heap.size + 1]? = some (.cells #[.bool false] 4 (0, 0)) from (hbw.block (w.heap.size + 1) (by simp)).trans (heap_alloc2_new w _ _)); have BW := Aside0.mk (show Below w.heap.size w w' from below_step (((Below.refl _ w).alloc (Nat.le_refl _) _).alloc (by simp) _) hbw); have SW := Aside0.mk (show w.heap.size + 2 ≤ w'.heap.size from by have := hbw.size; simp at this; omega); have hmk1 := hmk w'; have hown := own_made_of' (enc := Value.bool) (d := false) w' w'.heap.size 4 base.toNat (Nat.le_refl _) (by have := HB0.out; omega); obtain ⟨W1, hW1⟩ : ∃ W1, W1 = w'.alloc (.cells (madeCells #[.bool false] base.toNat) 4) := ⟨_, rfl⟩; rw [← hW1] at hmk1 hown; have d0 : World.cell? w' ⟨w.heap.size, 0, none⟩ = some (.slice A0 ds.length c0) := (blk_cell KA.out 0).trans rfl; have d1 : World.cell? w' ⟨w.heap.size, 1, none⟩ = some (.slice A1 ss.length c1) := (blk_cell KA.out 1).trans rfl; have d2 : World.cell? w' ⟨w.heap.size, 2, none⟩ = some (.int .i64 off) := (blk_cell KA.out 2).trans rfl; have d3 : World.cell? w' ⟨w.heap.size, 3, none⟩ = some (.int .i64 base) := (blk_cell KA.out 3).trans rfl; have HS1 := Aside0.mk (show W1.heap.size = w'.heap.size + 1 from by rw [hW1]; simp); have BF1 := Aside0.mk (show ∀ (g : Nat) (o : Obj), w'.heap[g]? = some o → W1.heap[g]? = some o from fun g o h => by rw [hW1]; exact blk_alloc h _); have e0 : World.cell? (W1.alloc (.cells #[.slice (some ⟨w'.heap.size, 0, none⟩) base.toNat base.toNat] 79)) ⟨w.heap.size, 0, none⟩ = some (.slice A0 ds.length c0) := (blk_cell (blk_alloc (BF1.out _ _ KA.out) _) 0).trans rfl; have e1 : World.cell? (W1.alloc (.cells #[.slice (some ⟨w'.heap.size, 0, none⟩) base.toNat base.toNat] 79)) ⟨w.heap.size, 1, none⟩ = some (.slice A1 ss.length c1) := (blk_cell (blk_alloc (BF1.out _ _ KA.out) _) 1).trans rfl; have e2 : World.cell? (W1.alloc (.cells #[.slice (some ⟨w'.heap.size, 0, none⟩) base.toNat base.toNat] 79)) ⟨w.heap.size, 2, none⟩ = some (.int .i64 off) := (blk_cell (blk_alloc (BF1.out _ _ KA.out) _) 2).trans rfl; have HBW := Aside0.mk hbw; have HRW := Aside0.mk hown; have HAL := Aside0.mk hW1; clear hbw hown hW1 hmk) | (refine ⟨trivial, ?_⟩; gi_at_call 56; refine (spots_in (n - 1) (.int .i64 0) (.int .i64 0) off _ A0 A1 ds.length c0 ss.length c1).mono ?_; rintro e w' ⟨rfl, rfl⟩))
  clear hmk1 d0 d1 d2 d3 e0 e1 e2
  have hs1 := HS1.out
  have hsw := SW.out
  have B1 : Below w.heap.size w (W1.alloc (.cells #[.slice (some ⟨w'.heap.size, 0, none⟩) base.toNat base.toNat] 79)) := by
    refine Below.alloc ?_ (by omega) _
    rw [HAL.out]
    exact BW.out.alloc (by omega) _
  have SV : (W1.alloc (.cells #[.slice (some ⟨w'.heap.size, 0, none⟩) base.toNat base.toNat] 79)).heap.size = w'.heap.size + 2 := by simp; omega
  have KV := heap_alloc_new W1 (.cells #[.slice (some ⟨w'.heap.size, 0, none⟩) base.toNat base.toNat] 79)
  have KBV := blk_alloc (BF1.out _ _ KB.out) (.cells #[.slice (some ⟨w'.heap.size, 0, none⟩) base.toNat base.toNat] 79)
  have HRV : Kd.R Kd.bool 4 (W1.alloc (.cells #[.slice (some ⟨w'.heap.size, 0, none⟩) base.toNat base.toNat] 79)) w'.heap.size (fun g => g = w'.heap.size) (.slice (some ⟨w'.heap.size, 0, none⟩) base.toNat base.toNat) (List.replicate base.toNat false) :=
    Kd.R_alloc (Kd.R_of_own (by exact HRW.out) (fun g hg => by simpa [Value.ownBlock] using hg.symm)) _
  rw [hs1] at KV ⊢
  obtain ⟨V, hV⟩ : ∃ V, V = W1.alloc (.cells #[.slice (some ⟨w'.heap.size, 0, none⟩) base.toNat base.toNat] 79) := ⟨_, rfl⟩
  rw [← hV] at B1 SV KV KBV HRV ⊢
  have SQ := spots_seq (n - 1) (by omega) A0 A1 c0 c1 k ds ss xs off w V HR0.out.1 HR1.out.1 HL.out.1 HL.out.2 (by omega) (fun g hg => B1.block g hg) HX.out
  rw [SV] at SQ
  have B2 : Below w.heap.size w (((V.alloc (.cells #[.slice A0 ds.length c0] 41)).alloc (.cells #[.slice A1 ss.length c1] 41)).alloc (.cells #[.int .i64 off] 3)) := ((B1.alloc (by omega) _).alloc (by simp; omega) _).alloc (by simp; omega) _
  have S2 : (((V.alloc (.cells #[.slice A0 ds.length c0] 41)).alloc (.cells #[.slice A1 ss.length c1] 41)).alloc (.cells #[.int .i64 off] 3)).heap.size = w'.heap.size + 5 := by simp; omega
  have K2 := blk_alloc (blk_alloc (blk_alloc KBV (.cells #[.slice A0 ds.length c0] 41)) (.cells #[.slice A1 ss.length c1] 41)) (.cells #[.int .i64 off] 3)
  have K3 := blk_alloc (blk_alloc (blk_alloc KV (.cells #[.slice A0 ds.length c0] 41)) (.cells #[.slice A1 ss.length c1] 41)) (.cells #[.int .i64 off] 3)
  have HR2 := Kd.R_alloc (Kd.R_alloc (Kd.R_alloc HRV (.cells #[.slice A0 ds.length c0] 41)) (.cells #[.slice A1 ss.length c1] 41)) (.cells #[.int .i64 off] 3)
  obtain ⟨w2, hw2⟩ : ∃ w2, w2 = ((V.alloc (.cells #[.slice A0 ds.length c0] 41)).alloc (.cells #[.slice A1 ss.length c1] 41)).alloc (.cells #[.int .i64 off] 3) := ⟨_, rfl⟩
  rw [← hw2] at SQ B2 S2 K2 K3 HR2 ⊢
  clear hw2 hV HRV KBV KV B1 HAL HRW HBW BF1 KA KB HS1 hs1
  refine rangeFunc_row (w := w2) rfl h1 (gf := 90) (lb := #[.pointer (some ⟨w'.heap.size + 2, 0, none⟩), .pointer (some ⟨w'.heap.size + 2 + 2, 0, none⟩), .pointer (some ⟨w'.heap.size + 2 + 1, 0, none⟩)]) rfl trivial (enters_of Try.func90 (by kernel_rfl) rfl)
    SQ (by intro g hg; omega) (fun _ => rfl)
    (fun pre W => W.heap[w.heap.size + 1]? = some (.cells #[.bool false] 4 (0, 0)) ∧ W.heap[w'.heap.size + 1]? = some (.cells #[.slice (some ⟨w'.heap.size, 0, none⟩) base.toNat base.toNat] 79 (0, 0)) ∧ (∃ m rest, Kd.R Kd.bool 4 W w'.heap.size (fun g => g = w'.heap.size) (.slice (some ⟨w'.heap.size, 0, none⟩) base.toNat base.toNat) m ∧ pre ++ rest = xs ∧ twF m rest = twF (List.replicate base.toNat false) xs) ∧ Below w.heap.size w W)
    (fun c pre W => c = .ret ∧ W.heap[w.heap.size + 1]? = some (.cells #[.bool true] 4 (0, 0)) ∧ twF (List.replicate base.toNat false) xs = true ∧ Below w.heap.size w W) ?hI ?hIx ?h0
    (fun x => { tmps := #[.agg #[.slice A0 ds.length c0, .slice A1 ss.length c1, .int .i64 off, .int .i64 base], .pointer (some ⟨w.heap.size, 0, none⟩), .pointer (some ⟨w.heap.size + 1, 0, none⟩), .pointer (some ⟨w'.heap.size + 1, 0, none⟩), .int .i64 x, .agg #[.slice A0 ds.length c0, .slice A1 ss.length c1, .int .i64 off, .int .i64 base], .bool true, .bool false, .pointer (some ⟨w.heap.size, 3, none⟩), .int .i64 base, .slice (some ⟨w'.heap.size, 0, none⟩) base.toNat base.toNat, .pointer (some ⟨w.heap.size, 0, none⟩), .slice A0 ds.length c0, .pointer (some ⟨w.heap.size, 1, none⟩), .slice A1 ss.length c1, .pointer (some ⟨w.heap.size, 2, none⟩), .int .i64 off, .func (.func 90) #[] #[.pointer (some ⟨w'.heap.size + 1 + 1, 0, none⟩), .pointer (some ⟨w'.heap.size + 1 + 1 + 2, 0, none⟩), .pointer (some ⟨w'.heap.size + 1 + 1 + 1, 0, none⟩)], .int .i64 x, undef, undef, undef, undef, undef, undef, undef], defers := [] }) ?assign ?body ?done ?stop
  case hI =>
    rintro pre A B ⟨h1, h2, ⟨m, rest, h3, h4, h5⟩, h6⟩ hk
    rw [S2] at hk
    have hlt1 := (Array.getElem?_eq_some_iff.1 h1).1
    have hlt2 := (Array.getElem?_eq_some_iff.1 h2).1
    exact ⟨(hk.2.1 _ hlt1 (by omega) (by omega)).trans h1, (hk.2.1 _ hlt2 (by omega) (by omega)).trans h2, ⟨m, rest, Kd.R_step h3 (fun g hg hlt => hk.2.1 g hlt (by omega) (by omega)), h4, h5⟩, ⟨hk.2.2.1.trans h6.os, hk.2.2.2.1.trans h6.tape, hk.2.2.2.2.trans h6.output, Nat.le_trans h6.size hk.1, fun g hg => (hk.2.1 g (by have := h6.size; omega) (by omega) (by omega)).trans (h6.block g hg)⟩⟩
  case hIx =>
    rintro c pre A B ⟨h0, h1, h5, h6⟩ hk
    rw [S2] at hk
    have hlt1 := (Array.getElem?_eq_some_iff.1 h1).1
    exact ⟨h0, (hk.2.1 _ hlt1 (by omega) (by omega)).trans h1, h5, ⟨hk.2.2.1.trans h6.os, hk.2.2.2.1.trans h6.tape, hk.2.2.2.2.trans h6.output, Nat.le_trans h6.size hk.1, fun g hg => (hk.2.1 g (by have := h6.size; omega) (by omega) (by omega)).trans (h6.block g hg)⟩⟩
  case h0 => exact ⟨K2, K3, ⟨_, xs, HR2, rfl, rfl⟩, B2⟩
  case assign =>
    intro l x W K hK
    gi_wp2
    exact hK
  case body =>
    rintro l pre x W ⟨hf, hv, ⟨m, rest, hR, hpr, htw⟩, hB⟩ hpre hsz
    rw [S2] at hsz
    obtain ⟨rest', rfl⟩ : ∃ r, rest = x :: r := by
      obtain ⟨t, ht⟩ := hpre
      refine ⟨t, ?_⟩
      rw [← ht, List.append_assoc] at hpr
      exact List.append_cancel_left hpr
    have hx := HPB.out x (by rw [← hpr]; simp)
    have hx1 : x < (base.toNat : Int) := by have := HB0.out; omega
    obtain ⟨x0, f0⟩ := Kd.R_celln false hR x hx.1 hx1
    have hx0 := hx.1
    have hc := (blk_cell hv 0).trans (show (#[(.slice (some ⟨w'.heap.size, 0, none⟩) base.toNat base.toNat : Value)] : Array Value)[0]? = some (.slice (some ⟨w'.heap.size, 0, none⟩) base.toNat base.toNat) from rfl)
    have hcb := (blk_cell hf 0).trans (show (#[.bool false] : Array Value)[0]? = some (.bool false) from rfl)
    have hfz := blk_frozen hf 0
    have BF := Aside0.mk hf
    have BK := Aside0.mk hv
    have HO := Aside0.mk hR
    have HBB := Aside0.mk hB
    have HSZ := Aside0.mk hsz
    have HPR := Aside0.mk (And.intro hpr htw)
    have HXX := Aside0.mk hx
    clear hf hv hR hB hsz hpre K2 K3 SQ HR2 hpr htw hx
    by_cases hm : rdOf false m x = true
    · rw [hm] at x0
      gi_wp2
      refine ⟨KeepsOthers.setCell _ _ _, rfl, blk_put BF.out 0 _ rfl, ?_, HBB.out.setCell (p := ⟨w.heap.size + 1, 0, none⟩) (by show w.heap.size ≤ w.heap.size + 1; omega) _⟩
      rw [← HPR.out.2]
      simp [twF, hm]
    · have hm' : rdOf false m x = false := by simpa using hm
      rw [hm'] at x0
      gi_wp2
      have hsz := HSZ.out
      refine ⟨KeepsOthers.setCell _ _ _, ⟨by simp, fun g hg => Below.heap_setCell W ⟨w'.heap.size, x.toNat, none⟩ _ g (by show g ≠ w'.heap.size; omega)⟩, ?_, ?_, ⟨m.set x.toNat true, rest', Kd.R_putn HO.out x true, by simpa using HPR.out.1, ?_⟩, HBB.out.setCell (p := ⟨w'.heap.size, x.toNat, none⟩) (by show w.heap.size ≤ w'.heap.size; omega) _⟩
      · exact (Below.heap_setCell W ⟨w'.heap.size, x.toNat, none⟩ _ (w.heap.size + 1) (by show w.heap.size + 1 ≠ w'.heap.size; omega)).trans BF.out
      · exact (Below.heap_setCell W ⟨w'.heap.size, x.toNat, none⟩ _ (w'.heap.size + 1) (by show w'.heap.size + 1 ≠ w'.heap.size; omega)).trans BK.out
      · have h := HPR.out.2
        simp only [twF, hm', Bool.false_eq_true, if_false] at h
        exact h
  case done =>
    rintro D W rfl ⟨hf, hv, ⟨m, rest, hR, hpr, htw⟩, hB⟩ hK
    have hc := (blk_cell hf 0).trans (show (#[.bool false] : Array Value)[0]? = some (.bool false) from rfl)
    have hfz := blk_frozen hf 0
    gi_wp2
    have hr0 : rest = [] := List.append_cancel_left (hpr.trans (List.append_nil xs).symm)
    have hf2 : (W.setCell ⟨w.heap.size + 1, 0, none⟩ (.bool false)).heap[w.heap.size + 1]? = some (.cells #[.bool false] 4 (0, 0)) := blk_put hf 0 _ rfl
    have hK2 := (Below.heap_setCell W ⟨w.heap.size + 1, 0, none⟩ (.bool false) w2.heap.size (by show w2.heap.size ≠ w.heap.size + 1; omega)).trans hK
    refine ⟨by simp, .inl ⟨_, _, rfl, run_takeDeferred hK2, ?_⟩⟩
    refine ⟨_, results_cell1 rfl _ _ _ ⟨w.heap.size + 1, 0, none⟩ (.bool false) rfl (load_bool _ _ _ ((blk_cell ((World.putObj_heap_other (by omega)).trans hf2) 0).trans rfl)), ?_, ?_⟩
    · rw [← htw, hr0]
      rfl
    · exact (hB.setCell (p := ⟨w.heap.size + 1, 0, none⟩) (by show w.heap.size ≤ w.heap.size + 1; omega) _).trans (belowK_b (w := w) (Nat.le_refl _) _ w2.heap.size _ _ (by omega) hK2 rfl rfl)
  case stop =>
    rintro D c pre W rfl _ ⟨rfl, hf, htw, hB⟩ hK
    gi_wp2
    refine ⟨by simp, .inl ⟨_, _, rfl, run_takeDeferred hK, ?_⟩⟩
    refine ⟨_, results_cell1 rfl _ _ _ ⟨w.heap.size + 1, 0, none⟩ (.bool true) rfl (load_bool _ _ _ ((blk_cell ((World.putObj_heap_other (by omega)).trans hf) 0).trans rfl)), ?_, ?_⟩
    · rw [htw]
    · exact hB.trans (belowK_b (w := w) (Nat.le_refl _) _ w2.heap.size _ _ (by omega) hK rfl rfl)
set_option maxHeartbeats 4000000 in
set_option maxRecDepth 100000 in
theorem twice_no (n : Nat) (hn : 3 ≤ n) (k : Nat) (A0 A1 : Option Addr) (c0 c1 : Nat) (ds ss : List Int) (off base : Int) (w : World)
    (hr0 : Kd.C (Kd.int .i64) w A0 ds.length ds) (hc0 : ds.length ≤ c0) (hr1 : Kd.C (Kd.int .i64) w A1 ss.length ss) (hc1 : ss.length ≤ c1)
    (hvo : impl_ViewOk.f k ds ss off base = some false) :
    CallsIn Fence.wide n Try.prog 27 #[.agg #[.slice A0 ds.length c0, .slice A1 ss.length c1, .int .i64 off, .int .i64 base]] w fun e w' => e = .returned (.bool false) ∧ Below w.heap.size w w' := by
  have HR0 := Aside0.mk (And.intro hr0 hc0)
  have HR1 := Aside0.mk (And.intro hr1 hc1)
  have HVO := Aside0.mk hvo
  clear hr0 hr1 hc0 hc1 hvo
  refine callsIn_of_wp_marks Try.func27 rfl trivial ?_ rfl
  simp only [Try.ntmps27, List.size_toArray, List.length_cons, List.length_nil, Nat.reduceAdd, Nat.reduceSub, Array.replicate_succ, Array.replicate_zero, List.push_toArray, List.append_toArray, List.nil_append, List.cons_append]
  have h1 : 1 ≤ n := by omega
  gi_wp2_with (refine ⟨trivial, ?_⟩; gi_at_call 55; refine (callsIn_wide.2 (impl_ViewOk.calls k _ _ ds _ _ ss off base false _ (Kd.C_alloc (Kd.C_alloc HR0.out.1 _) _) HR0.out.2 (Kd.C_alloc (Kd.C_alloc HR1.out.1 _) _) HR1.out.2 HVO.out)).mono ?_; rintro e w' ⟨rfl, hbw⟩; have KB := Aside0.mk (show w'.heap[w.heap.size + 1]? = some (.cells #[.bool false] 4 (0, 0)) from (hbw.block (w.heap.size + 1) (by simp)).trans (heap_alloc2_new w _ _)); have BW := Aside0.mk (show Below w.heap.size w w' from below_step (((Below.refl _ w).alloc (Nat.le_refl _) _).alloc (by simp) _) hbw); have kb := (blk_cell KB.out 0).trans (show (#[.bool false] : Array Value)[0]? = some (.bool false) from rfl); have kf := blk_frozen KB.out 0; clear hbw)
  have hf2 : (w'.setCell ⟨w.heap.size + 1, 0, none⟩ (.bool false)).heap[w.heap.size + 1]? = some (.cells #[.bool false] 4 (0, 0)) := blk_put KB.out 0 _ rfl
  refine ⟨_, results_cell1 rfl _ _ _ ⟨w.heap.size + 1, 0, none⟩ (.bool false) rfl (load_bool _ _ _ ((blk_cell hf2 0).trans rfl)), rfl, ?_⟩
  exact BW.out.setCell (p := ⟨w.heap.size + 1, 0, none⟩) (by show w.heap.size ≤ w.heap.size + 1; omega) _
end

set_option maxHeartbeats 8000000 in
set_option maxRecDepth 100000 in
theorem impl_Twice.calls (k : Nat) (A0_0 : Option Addr) (c0_0 : Nat) (l0_0 : List Int) (A0_1 : Option Addr) (c0_1 : Nat) (l0_1 : List Int) (a0_2 : Int) (a0_3 : Int) (r : Bool) (w : World) (hr0_0 : Kd.C (Kd.int .i64) w A0_0 l0_0.length l0_0) (hc0_0 : l0_0.length ≤ c0_0) (hr0_1 : Kd.C (Kd.int .i64) w A0_1 l0_1.length l0_1) (hc0_1 : l0_1.length ≤ c0_1) (h : impl_Twice.f k l0_0 l0_1 a0_2 a0_3 = some r) :
    Calls Try.prog 27 #[.agg #[.slice A0_0 l0_0.length c0_0, .slice A0_1 l0_1.length c0_1, .int .i64 a0_2, .int .i64 a0_3]] w fun e w' => e = .returned (.bool r) ∧ Below w.heap.size w w' := by
  unfold impl_Twice.f at h
  obtain ⟨t, hv, h⟩ := Option.bind_eq_some_iff.mp h
  cases t with
  | false =>
    rw [if_neg (by simp)] at h
    obtain rfl := Option.some.inj h
    exact (callsIn_wide (n := 3)).1 (twice_no 3 (Nat.le_refl _) k _ _ c0_0 c0_1 l0_0 l0_1 _ a0_3 w hr0_0 hc0_0 hr0_1 hc0_1 hv)
  | true =>
    rw [if_pos rfl] at h
    by_cases c1 : (l0_0.length ≤ l0_1.length ∧ l0_0.length ≤ 1000) ∧ 0 ≤ a0_3 ∧ a0_3 ≤ 1000000
    · rw [if_pos c1] at h
      obtain ⟨xs, hx, h⟩ := Option.bind_eq_some_iff.mp h
      by_cases c2 : ∀ p ∈ xs, 0 ≤ p ∧ p < a0_3
      · rw [if_pos c2] at h
        obtain rfl := Option.some.inj h
        exact (callsIn_wide (n := 3)).1 (twice_in 3 (Nat.le_refl _) _ _ c0_0 c0_1 k l0_0 l0_1 xs _ a0_3 w hr0_0 hc0_0 hr0_1 hc0_1 c1.1.1 c1.1.2 c1.2.1 c1.2.2 hv hx c2)
      · rw [if_neg c2] at h
        cases h
    · rw [if_neg c1] at h
      cases h

/-! ### laws_eqIntS: function 35 -/
def laws_eqIntS.l0 : Nat → List Int → List Int → Int → Option (Bool)
  | 0, _, _, _ => none
  | k + 1, x0, x1, x5 => if x5 < (x0.length : Int) then (if 0 ≤ x5 then (if x5 < (x1.length : Int) then (if (rd x0 x5) = (rd x1 x5) then (laws_eqIntS.l0 k x0 x1 (wrap64 (x5 + 1))) else (some false)) else (none)) else (none)) else (some true)
def laws_eqIntS.f (k : Nat) (l0 : List Int) (l1 : List Int) : Option (Bool) := if (l0.length : Int) = (l1.length : Int) then (laws_eqIntS.l0 k l0 l1 0) else (some false)
theorem laws_eqIntS.mono_l : ∀ k, (∀ y0 y1 y2, LeO (laws_eqIntS.l0 k y0 y1 y2) (laws_eqIntS.l0 (k + 1) y0 y1 y2))
  | 0 => fun _ _ _ r h => by simp [laws_eqIntS.l0] at h
  | k + 1 => by
    have ih0 := laws_eqIntS.mono_l k
    · intro y0 y1 y2
      unfold laws_eqIntS.l0
      repeat' first
      | (with_reducible exact ih0 _ _ _)
      | (with_reducible exact LeO.refl _)
      | (with_reducible exact LeO.none _)
      | (with_reducible refine LeO.ite ?_ ?_)
      | (with_reducible refine LeO.bind ?_ (fun _ => ?_))
      | exact ih0 _ _ _
      | exact LeO.none _
      | refine LeO.ite ?_ ?_
      | refine LeO.bind ?_ (fun _ => ?_)
theorem laws_eqIntS.mono : ∀ a0 a1 k, LeO (laws_eqIntS.f k a0 a1) (laws_eqIntS.f (k + 1) a0 a1) := by
  intro a0 a1 k
  have ih0 := laws_eqIntS.mono_l k
  unfold laws_eqIntS.f
  repeat' first
      | (with_reducible exact ih0 _ _ _)
      | (with_reducible exact LeO.refl _)
      | (with_reducible exact LeO.none _)
      | (with_reducible refine LeO.ite ?_ ?_)
      | (with_reducible refine LeO.bind ?_ (fun _ => ?_))
      | exact ih0 _ _ _
      | exact LeO.none _
      | refine LeO.ite ?_ ?_
      | refine LeO.bind ?_ (fun _ => ?_)
set_option maxHeartbeats 8000000 in
set_option maxRecDepth 100000 in
theorem laws_eqIntS.calls (k : Nat) (A0 : Option Addr) (c0 : Nat) (l0 : List Int) (A1 : Option Addr) (c1 : Nat) (l1 : List Int) (r : Bool) (w : World) (hr0 : Kd.C (Kd.int .i64) w A0 l0.length l0) (hc0 : l0.length ≤ c0) (hr1 : Kd.C (Kd.int .i64) w A1 l1.length l1) (hc1 : l1.length ≤ c1) (h : laws_eqIntS.f k l0 l1 = some r) :
    Calls Try.prog 35 #[.slice A0 l0.length c0, .slice A1 l1.length c1] w fun e w' => e = .returned (.bool r) ∧ Drawn0 w w' := by
  have HR0 := Aside0.mk hr0
  have HC0 := Aside0.mk hc0
  clear hr0 hc0
  have HR1 := Aside0.mk hr1
  have HC1 := Aside0.mk hc1
  clear hr1 hc1
  have H : (if (l0.length : Int) = (l1.length : Int) then (laws_eqIntS.l0 k l0 l1 0) else (some false)) = some r := h
  clear h
  by_cases c3 : (l0.length : Int) = (l1.length : Int)
  · rw [if_pos c3] at H
    have c3b0 : ((l0.length : Int) == (l1.length : Int)) = true := beq_iff_eq.mpr c3
    have c3b1 : ((l0.length : Int) != (l1.length : Int)) = false := bne_eq_false_iff_eq.mpr c3
    have c3b2 : (l0.length == l1.length) = true := by first | simpa using c3 | (simp at c3 ⊢; omega)
    clear c3
    have H' := Aside0.mk H
    clear H
    go_enter Try.func35, Try.ntmps35
    go_wp2
    repeat (go_quiet (fail); try go_wp2)
    go_loopg [5] k (fun kq v5 w' => ∃ (x5_1 : Int), v5 = .int .i64 x5_1 ∧ Aside0 (laws_eqIntS.l0 kq l0 l1 x5_1 = some r) ∧ Aside0 (kq ≤ k) ∧ Drawn0 w w')
    case atStart => exact ⟨(0), (by first | rfl | (simp; done) | (simp [*]; done)), H', ⟨Nat.le_refl _⟩, by repeat (first | exact Drawn0.refl _ | apply Drawn0.step)⟩
    case round =>
      clear H'
      try clear c1
      try clear p2
      try clear c3
      try clear c3b0
      try clear c3b1
      try clear c3b2
      obtain ⟨x5_1, rfl, HA, HK1, ⟨m1, rfl⟩⟩ := hrel
      cases gk with
      | zero => exact absurd HA.out (by simp [laws_eqIntS.l0])
      | succ k1 =>
        have H := HA.out
        clear HA
        simp only [laws_eqIntS.l0] at H
        by_cases c4 : x5_1 < (l0.length : Int)
        · rw [if_pos c4] at H
          have c4b0 : decide (x5_1 < (l0.length : Int)) = true := decide_eq_true c4
          clear c4
          by_cases c5 : 0 ≤ x5_1
          · rw [if_pos c5] at H
            have c5b0 : decide (0 ≤ x5_1) = true := decide_eq_true c5
            clear c5
            by_cases c6 : x5_1 < (l1.length : Int)
            · rw [if_pos c6] at H
              have c6b0 : decide (x5_1 < (l1.length : Int)) = true := decide_eq_true c6
              clear c6
              by_cases c7 : (rd l0 x5_1) = (rd l1 x5_1)
              · rw [if_pos c7] at H
                have c7b0 : ((rd l0 x5_1) == (rd l1 x5_1)) = true := beq_iff_eq.mpr c7
                have c7b1 : ((rd l0 x5_1) != (rd l1 x5_1)) = false := bne_eq_false_iff_eq.mpr c7
                clear c7
                have H' := Aside0.mk H
                clear H
                have p170 : 0 ≤ (x5_1 : Int) := of_decide_eq_true (by first | (with_reducible assumption) | assumption)
                have q170 : x5_1 < (l0.length : Int) := of_decide_eq_true (by first | (with_reducible assumption) | assumption)
                obtain ⟨ad170, e170, hx170_0⟩ := Kd.at_int HR0.out x5_1 p170 q170
                cases e170
                replace p170 := eq_true p170
                replace q170 := eq_true q170
                have p171 : 0 ≤ (x5_1 : Int) := of_decide_eq_true (by first | (with_reducible assumption) | assumption)
                have q171 : x5_1 < (l1.length : Int) := of_decide_eq_true (by first | (with_reducible assumption) | assumption)
                obtain ⟨ad171, e171, hx171_0⟩ := Kd.at_int HR1.out x5_1 p171 q171
                cases e171
                replace p171 := eq_true p171
                replace q171 := eq_true q171
                go_wp2
                repeat (go_quiet (fail); try go_wp2)
                go_roundg k1
                case measure => have := HK1.out; omega
                case rel => exact ⟨(wrap64 (x5_1 + 1)), (by first | rfl | (simp; done) | (simp [*]; done)), H', ⟨by have := HK1.out; omega⟩, by repeat (first | exact Drawn0.refl _ | apply Drawn0.step)⟩
              · rw [if_neg c7] at H
                have c7b0 : ((rd l0 x5_1) == (rd l1 x5_1)) = false := beq_eq_false_iff_ne.mpr c7
                have c7b1 : ((rd l0 x5_1) != (rd l1 x5_1)) = true := bne_iff_ne.mpr c7
                obtain rfl := Option.some.inj H
                have p170 : 0 ≤ (x5_1 : Int) := of_decide_eq_true (by first | (with_reducible assumption) | assumption)
                have q170 : x5_1 < (l0.length : Int) := of_decide_eq_true (by first | (with_reducible assumption) | assumption)
                obtain ⟨ad170, e170, hx170_0⟩ := Kd.at_int HR0.out x5_1 p170 q170
                cases e170
                replace p170 := eq_true p170
                replace q170 := eq_true q170
                have p171 : 0 ≤ (x5_1 : Int) := of_decide_eq_true (by first | (with_reducible assumption) | assumption)
                have q171 : x5_1 < (l1.length : Int) := of_decide_eq_true (by first | (with_reducible assumption) | assumption)
                obtain ⟨ad171, e171, hx171_0⟩ := Kd.at_int HR1.out x5_1 p171 q171
                cases e171
                replace p171 := eq_true p171
                replace q171 := eq_true q171
                go_wp2
                repeat (go_quiet (fail); try go_wp2)
                go_ret
                exact ⟨by first | rfl | (simp; done) | (simp [*]; done), by repeat (first | exact Drawn0.refl _ | apply Drawn0.step)⟩
            · rw [if_neg c6] at H
              exact absurd H (by simp)
          · rw [if_neg c5] at H
            exact absurd H (by simp)
        · rw [if_neg c4] at H
          have c4b0 : decide (x5_1 < (l0.length : Int)) = false := decide_eq_false c4
          clear c4
          obtain rfl := Option.some.inj H
          go_wp2
          repeat (go_quiet (fail); try go_wp2)
          go_ret
          exact ⟨by first | rfl | (simp; done) | (simp [*]; done), by repeat (first | exact Drawn0.refl _ | apply Drawn0.step)⟩
  · rw [if_neg c3] at H
    have c3b0 : ((l0.length : Int) == (l1.length : Int)) = false := beq_eq_false_iff_ne.mpr c3
    have c3b1 : ((l0.length : Int) != (l1.length : Int)) = true := bne_iff_ne.mpr c3
    have c3b2 : (l0.length == l1.length) = false := by first | simpa using c3 | (simp at c3 ⊢; omega)
    obtain rfl := Option.some.inj H
    go_enter Try.func35, Try.ntmps35
    go_wp2
    repeat (go_quiet (fail); try go_wp2)
    go_ret
    exact ⟨by first | rfl | (simp; done) | (simp [*]; done), by repeat (first | exact Drawn0.refl _ | apply Drawn0.step)⟩

/-! ### laws_eqView: function 28 -/
def laws_eqView.f (k : Nat) (l0_0 : List Int) (l0_1 : List Int) (a0_2 : Int) (a0_3 : Int) (l1_0 : List Int) (l1_1 : List Int) (a1_2 : Int) (a1_3 : Int) : Option (Bool) := (laws_eqIntS.f k l0_0 l1_0).bind fun t174 => (if t174 = true then ((laws_eqIntS.f k l0_1 l1_1).bind fun t175 => (if t175 = true then (if a0_2 = a1_2 then (if a0_3 = a1_3 then (some true) else (some false)) else (some false)) else (some false))) else (some false))
theorem laws_eqView.mono : ∀ a0 a1 a2 a3 a4 a5 a6 a7 k, LeO (laws_eqView.f k a0 a1 a2 a3 a4 a5 a6 a7) (laws_eqView.f (k + 1) a0 a1 a2 a3 a4 a5 a6 a7) := by
  intro a0 a1 a2 a3 a4 a5 a6 a7 k
  unfold laws_eqView.f
  repeat' first
      | (with_reducible exact laws_eqIntS.mono _ _ _)
      | (with_reducible exact LeO.refl _)
      | (with_reducible exact LeO.none _)
      | (with_reducible refine LeO.ite ?_ ?_)
      | (with_reducible refine LeO.bind ?_ (fun _ => ?_))
      | exact laws_eqIntS.mono _ _ _
      | exact LeO.none _
      | refine LeO.ite ?_ ?_
      | refine LeO.bind ?_ (fun _ => ?_)
set_option maxHeartbeats 8000000 in
set_option maxRecDepth 100000 in
theorem laws_eqView.calls (k : Nat) (A0_0 : Option Addr) (c0_0 : Nat) (l0_0 : List Int) (A0_1 : Option Addr) (c0_1 : Nat) (l0_1 : List Int) (a0_2 : Int) (a0_3 : Int) (A1_0 : Option Addr) (c1_0 : Nat) (l1_0 : List Int) (A1_1 : Option Addr) (c1_1 : Nat) (l1_1 : List Int) (a1_2 : Int) (a1_3 : Int) (r : Bool) (w : World) (hr0_0 : Kd.C (Kd.int .i64) w A0_0 l0_0.length l0_0) (hc0_0 : l0_0.length ≤ c0_0) (hr0_1 : Kd.C (Kd.int .i64) w A0_1 l0_1.length l0_1) (hc0_1 : l0_1.length ≤ c0_1) (hr1_0 : Kd.C (Kd.int .i64) w A1_0 l1_0.length l1_0) (hc1_0 : l1_0.length ≤ c1_0) (hr1_1 : Kd.C (Kd.int .i64) w A1_1 l1_1.length l1_1) (hc1_1 : l1_1.length ≤ c1_1) (h : laws_eqView.f k l0_0 l0_1 a0_2 a0_3 l1_0 l1_1 a1_2 a1_3 = some r) :
    Calls Try.prog 28 #[.agg #[.slice A0_0 l0_0.length c0_0, .slice A0_1 l0_1.length c0_1, .int .i64 a0_2, .int .i64 a0_3], .agg #[.slice A1_0 l1_0.length c1_0, .slice A1_1 l1_1.length c1_1, .int .i64 a1_2, .int .i64 a1_3]] w fun e w' => e = .returned (.bool r) ∧ Below w.heap.size w w' := by
  have hu46 := Try.underlying46
  have HR0_0 := Aside0.mk hr0_0
  have HC0_0 := Aside0.mk hc0_0
  clear hr0_0 hc0_0
  have HR0_1 := Aside0.mk hr0_1
  have HC0_1 := Aside0.mk hc0_1
  clear hr0_1 hc0_1
  have HR1_0 := Aside0.mk hr1_0
  have HC1_0 := Aside0.mk hc1_0
  clear hr1_0 hc1_0
  have HR1_1 := Aside0.mk hr1_1
  have HC1_1 := Aside0.mk hc1_1
  clear hr1_1 hc1_1
  have HB := Aside0.mk (Below.refl w.heap.size w)
  have H : ((laws_eqIntS.f k l0_0 l1_0).bind fun t174 => (if t174 = true then ((laws_eqIntS.f k l0_1 l1_1).bind fun t175 => (if t175 = true then (if a0_2 = a1_2 then (if a0_3 = a1_3 then (some true) else (some false)) else (some false)) else (some false))) else (some false))) = some r := h
  clear h
  replace H := Option.bind_eq_some_iff.mp H
  obtain ⟨t174, A30, H⟩ := H
  replace H : (if t174 = true then ((laws_eqIntS.f k l0_1 l1_1).bind fun t175 => (if t175 = true then (if a0_2 = a1_2 then (if a0_3 = a1_3 then (some true) else (some false)) else (some false)) else (some false))) else (some false)) = some r := H
  have A3 := Aside0.mk A30
  clear A30
  by_cases c4 : t174 = true
  · subst c4
    have H1 : ((laws_eqIntS.f k l0_1 l1_1).bind fun t175 => (if t175 = true then (if a0_2 = a1_2 then (if a0_3 = a1_3 then (some true) else (some false)) else (some false)) else (some false))) = some r := by rw [if_pos rfl] at H; exact H
    clear H
    have H := H1
    clear H1
    replace H := Option.bind_eq_some_iff.mp H
    obtain ⟨t175, A50, H⟩ := H
    replace H : (if t175 = true then (if a0_2 = a1_2 then (if a0_3 = a1_3 then (some true) else (some false)) else (some false)) else (some false)) = some r := H
    have A5 := Aside0.mk A50
    clear A50
    by_cases c6 : t175 = true
    · subst c6
      have H1 : (if a0_2 = a1_2 then (if a0_3 = a1_3 then (some true) else (some false)) else (some false)) = some r := by rw [if_pos rfl] at H; exact H
      clear H
      have H := H1
      clear H1
      by_cases c7 : a0_2 = a1_2
      · rw [if_pos c7] at H
        have c7b0 : (a0_2 == a1_2) = true := beq_iff_eq.mpr c7
        have c7b1 : (a0_2 != a1_2) = false := bne_eq_false_iff_eq.mpr c7
        clear c7
        by_cases c8 : a0_3 = a1_3
        · rw [if_pos c8] at H
          have c8b0 : (a0_3 == a1_3) = true := beq_iff_eq.mpr c8
          have c8b1 : (a0_3 != a1_3) = false := bne_eq_false_iff_eq.mpr c8
          clear c8
          obtain rfl := Option.some.inj H
          go_enter Try.func28, Try.ntmps28
          go_wp2_with (first | ((with_reducible refine gate_dst (N := 2) rfl ?_); refine box_event ?hg (N := 2) ?hd (cs := #[.slice A0_0 l0_0.length c0_0, .slice A0_1 l0_1.length c0_1, .int .i64 a0_2, .int .i64 a0_3]) (t := 46) ?hr ?_; (case hd => rfl); (case hg => rfl); (case hr => first | (go_simp; done) | (go_simp; rfl)); intro gb172 hg w9 hbox hb; have n0_ := Aside0.mk (below_step (by repeat (first | (with_reducible first | exact HB.out | apply below_alloc | apply pw_below_drewN | apply below_drew1) | exact HB.out)) hb); have n1_ := Aside0.mk (hbox); have n2_ := Aside0.mk ((by rw [hg]; exact (below_size (by repeat (first | (with_reducible first | exact HB.out | apply below_alloc | apply pw_below_drewN | apply below_drew1) | exact HB.out))) : w.heap.size ≤ gb172)); have n3_ := Aside0.mk ((by rw [hg]; exact (below_size (by repeat (first | (with_reducible first | exact HB.out | apply below_alloc | apply pw_below_drewN | apply below_drew1) | exact HB.out))) : w.heap.size ≤ gb172)); clear HB; have HB := n0_; have BK172 := n1_; have GW172 := n2_; have GE172 := n3_; clear n0_ n1_ n2_ n3_; clear hb hbox hg) | ((with_reducible refine gate_dst (N := 3) rfl ?_); refine box_event ?hg (N := 3) ?hd (cs := #[.slice A1_0 l1_0.length c1_0, .slice A1_1 l1_1.length c1_1, .int .i64 a1_2, .int .i64 a1_3]) (t := 46) ?hr ?_; (case hd => rfl); (case hg => rfl); (case hr => first | (go_simp; done) | (go_simp; rfl)); intro gb173 hg w10 hbox hb; have n0_ := Aside0.mk (blk_below (g := gb172) (o := .cells #[.slice A0_0 l0_0.length c0_0, .slice A0_1 l0_1.length c0_1, .int .i64 a0_2, .int .i64 a0_3] 46 (0, 0)) (by (with_reducible repeat (first | refine blk_drewN ?_ _ | refine blk_drew ?_ | refine blk_alloc ?_ _)); exact BK172.out) hb); have n1_ := Aside0.mk (below_step (by repeat (first | (with_reducible first | exact HB.out | apply below_alloc | apply pw_below_drewN | apply below_drew1 | refine below_set ?_ GE172.out) | exact HB.out)) hb); have n2_ := Aside0.mk (hbox); have n3_ := Aside0.mk ((by rw [hg]; exact (below_size (by repeat (first | (with_reducible first | exact HB.out | apply below_alloc | apply pw_below_drewN | apply below_drew1 | refine below_set ?_ GE172.out) | exact HB.out))) : w.heap.size ≤ gb173)); have n4_ := Aside0.mk ((by rw [hg]; exact (below_size (by repeat (first | (with_reducible first | exact HB.out | apply below_alloc | apply pw_below_drewN | apply below_drew1 | refine below_set ?_ GE172.out) | exact HB.out))) : w.heap.size ≤ gb173)); have n5_ := Aside0.mk ((by rw [hg]; exact Nat.ne_of_lt (blk_lt (g := gb172) (o := .cells #[.slice A0_0 l0_0.length c0_0, .slice A0_1 l0_1.length c0_1, .int .i64 a0_2, .int .i64 a0_3] 46 (0, 0)) (by (with_reducible repeat (first | refine blk_drewN ?_ _ | refine blk_drew ?_ | refine blk_alloc ?_ _)); exact BK172.out)) : gb172 ≠ gb173)); have n6_ := Aside0.mk ((by rw [hg]; exact Nat.ne_of_gt (blk_lt (g := gb172) (o := .cells #[.slice A0_0 l0_0.length c0_0, .slice A0_1 l0_1.length c0_1, .int .i64 a0_2, .int .i64 a0_3] 46 (0, 0)) (by (with_reducible repeat (first | refine blk_drewN ?_ _ | refine blk_drew ?_ | refine blk_alloc ?_ _)); exact BK172.out)) : gb173 ≠ gb172)); clear BK172; clear HB; have BK172 := n0_; have HB := n1_; have BK173 := n2_; have GW173 := n3_; have GE173 := n4_; have NB172_173 := n5_; have NB173_172 := n6_; clear n0_ n1_ n2_ n3_ n4_ n5_ n6_; clear hb hbox hg; have hnb11 := NB172_173.out; have hnc11 := NB173_172.out; have hcz12_0 : w10.cell? ⟨gb172, 0, none⟩ = some (.slice A0_0 l0_0.length c0_0) := (blk_cell BK172.out 0).trans rfl; have hcz12_1 : w10.cell? ⟨gb172, 1, none⟩ = some (.slice A0_1 l0_1.length c0_1) := (blk_cell BK172.out 1).trans rfl; have hcz12_2 : w10.cell? ⟨gb172, 2, none⟩ = some (.int .i64 a0_2) := (blk_cell BK172.out 2).trans rfl; have hcz12_3 : w10.cell? ⟨gb172, 3, none⟩ = some (.int .i64 a0_3) := (blk_cell BK172.out 3).trans rfl; have hfz12_0 := blk_frozen BK172.out 0; have hfz12_1 := blk_frozen BK172.out 1; have hfz12_2 := blk_frozen BK172.out 2; have hfz12_3 := blk_frozen BK172.out 3; have hcz13_0 : w10.cell? ⟨gb173, 0, none⟩ = some (.slice A1_0 l1_0.length c1_0) := (blk_cell BK173.out 0).trans rfl; have hcz13_1 : w10.cell? ⟨gb173, 1, none⟩ = some (.slice A1_1 l1_1.length c1_1) := (blk_cell BK173.out 1).trans rfl; have hcz13_2 : w10.cell? ⟨gb173, 2, none⟩ = some (.int .i64 a1_2) := (blk_cell BK173.out 2).trans rfl; have hcz13_3 : w10.cell? ⟨gb173, 3, none⟩ = some (.int .i64 a1_3) := (blk_cell BK173.out 3).trans rfl; have hfz13_0 := blk_frozen BK173.out 0; have hfz13_1 := blk_frozen BK173.out 1; have hfz13_2 := blk_frozen BK173.out 2; have hfz13_3 := blk_frozen BK173.out 3) | ((with_reducible refine gate_callee (f := 35) rfl ?_); refine goesL_ (some 9) rfl rfl Try.func35 (by kernel_rfl) rfl #[.slice A0_0 l0_0.length c0_0, .slice A1_0 l1_0.length c1_0] rfl (by (try simp only [List.map_toArray, List.map_cons, List.map_nil]); first | done | rfl | (simp only [List.length_drop, List.length_take]; rfl)) ?_; (with_reducible refine (laws_eqIntS.calls k _ _ l0_0 _ _ l1_0 true _ ?side1 ?side2 ?side3 ?side4 A3.out).mono ?_); (case side1 => repeat (first | exact (Kd.C_below HR0_0.out HB.out) | (with_reducible refine Kd.C_alloc ?_ _) | (with_reducible refine Kd.C_drewN ?_ _) | (with_reducible refine Kd.C_drew ?_))); (case side2 => exact HC0_0.out); (case side3 => repeat (first | exact (Kd.C_below HR1_0.out HB.out) | (with_reducible refine Kd.C_alloc ?_ _) | (with_reducible refine Kd.C_drewN ?_ _) | (with_reducible refine Kd.C_drew ?_))); (case side4 => exact HC1_0.out); rintro e w' ⟨rfl, ⟨nd, rfl⟩⟩; refine ⟨_, rfl, ?_⟩) | ((with_reducible refine gate_callee (f := 35) rfl ?_); refine goesL_ (some 15) rfl rfl Try.func35 (by kernel_rfl) rfl #[.slice A0_1 l0_1.length c0_1, .slice A1_1 l1_1.length c1_1] rfl (by (try simp only [List.map_toArray, List.map_cons, List.map_nil]); first | done | rfl | (simp only [List.length_drop, List.length_take]; rfl)) ?_; (with_reducible refine (laws_eqIntS.calls k _ _ l0_1 _ _ l1_1 true _ ?side1 ?side2 ?side3 ?side4 A5.out).mono ?_); (case side1 => repeat (first | exact (Kd.C_below HR0_1.out (by repeat (first | (with_reducible first | exact HB.out | apply below_alloc | apply pw_below_drewN | apply below_drew1 | refine below_set ?_ GE172.out | refine below_set ?_ GE173.out) | exact HB.out))) | (with_reducible refine Kd.C_alloc ?_ _) | (with_reducible refine Kd.C_drewN ?_ _) | (with_reducible refine Kd.C_drew ?_))); (case side2 => exact HC0_1.out); (case side3 => repeat (first | exact (Kd.C_below HR1_1.out (by repeat (first | (with_reducible first | exact HB.out | apply below_alloc | apply pw_below_drewN | apply below_drew1 | refine below_set ?_ GE172.out | refine below_set ?_ GE173.out) | exact HB.out))) | (with_reducible refine Kd.C_alloc ?_ _) | (with_reducible refine Kd.C_drewN ?_ _) | (with_reducible refine Kd.C_drew ?_))); (case side4 => exact HC1_1.out); rintro e w' ⟨rfl, ⟨nd, rfl⟩⟩; refine ⟨_, rfl, ?_⟩))
          go_ret
          exact ⟨by first | rfl | (simp [errW_none, errW_some] <;> rfl) | (simp [*, errW_none, errW_some] <;> rfl), by repeat (first | (with_reducible first | exact HB.out | apply below_alloc | apply pw_below_drewN | apply below_drew1 | refine below_set ?_ GE172.out | refine below_set ?_ GE173.out) | exact HB.out)⟩
        · rw [if_neg c8] at H
          have c8b0 : (a0_3 == a1_3) = false := beq_eq_false_iff_ne.mpr c8
          have c8b1 : (a0_3 != a1_3) = true := bne_iff_ne.mpr c8
          obtain rfl := Option.some.inj H
          go_enter Try.func28, Try.ntmps28
          go_wp2_with (first | ((with_reducible refine gate_dst (N := 2) rfl ?_); refine box_event ?hg (N := 2) ?hd (cs := #[.slice A0_0 l0_0.length c0_0, .slice A0_1 l0_1.length c0_1, .int .i64 a0_2, .int .i64 a0_3]) (t := 46) ?hr ?_; (case hd => rfl); (case hg => rfl); (case hr => first | (go_simp; done) | (go_simp; rfl)); intro gb172 hg w14 hbox hb; have n0_ := Aside0.mk (below_step (by repeat (first | (with_reducible first | exact HB.out | apply below_alloc | apply pw_below_drewN | apply below_drew1) | exact HB.out)) hb); have n1_ := Aside0.mk (hbox); have n2_ := Aside0.mk ((by rw [hg]; exact (below_size (by repeat (first | (with_reducible first | exact HB.out | apply below_alloc | apply pw_below_drewN | apply below_drew1) | exact HB.out))) : w.heap.size ≤ gb172)); have n3_ := Aside0.mk ((by rw [hg]; exact (below_size (by repeat (first | (with_reducible first | exact HB.out | apply below_alloc | apply pw_below_drewN | apply below_drew1) | exact HB.out))) : w.heap.size ≤ gb172)); clear HB; have HB := n0_; have BK172 := n1_; have GW172 := n2_; have GE172 := n3_; clear n0_ n1_ n2_ n3_; clear hb hbox hg) | ((with_reducible refine gate_dst (N := 3) rfl ?_); refine box_event ?hg (N := 3) ?hd (cs := #[.slice A1_0 l1_0.length c1_0, .slice A1_1 l1_1.length c1_1, .int .i64 a1_2, .int .i64 a1_3]) (t := 46) ?hr ?_; (case hd => rfl); (case hg => rfl); (case hr => first | (go_simp; done) | (go_simp; rfl)); intro gb173 hg w15 hbox hb; have n0_ := Aside0.mk (blk_below (g := gb172) (o := .cells #[.slice A0_0 l0_0.length c0_0, .slice A0_1 l0_1.length c0_1, .int .i64 a0_2, .int .i64 a0_3] 46 (0, 0)) (by (with_reducible repeat (first | refine blk_drewN ?_ _ | refine blk_drew ?_ | refine blk_alloc ?_ _)); exact BK172.out) hb); have n1_ := Aside0.mk (below_step (by repeat (first | (with_reducible first | exact HB.out | apply below_alloc | apply pw_below_drewN | apply below_drew1 | refine below_set ?_ GE172.out) | exact HB.out)) hb); have n2_ := Aside0.mk (hbox); have n3_ := Aside0.mk ((by rw [hg]; exact (below_size (by repeat (first | (with_reducible first | exact HB.out | apply below_alloc | apply pw_below_drewN | apply below_drew1 | refine below_set ?_ GE172.out) | exact HB.out))) : w.heap.size ≤ gb173)); have n4_ := Aside0.mk ((by rw [hg]; exact (below_size (by repeat (first | (with_reducible first | exact HB.out | apply below_alloc | apply pw_below_drewN | apply below_drew1 | refine below_set ?_ GE172.out) | exact HB.out))) : w.heap.size ≤ gb173)); have n5_ := Aside0.mk ((by rw [hg]; exact Nat.ne_of_lt (blk_lt (g := gb172) (o := .cells #[.slice A0_0 l0_0.length c0_0, .slice A0_1 l0_1.length c0_1, .int .i64 a0_2, .int .i64 a0_3] 46 (0, 0)) (by (with_reducible repeat (first | refine blk_drewN ?_ _ | refine blk_drew ?_ | refine blk_alloc ?_ _)); exact BK172.out)) : gb172 ≠ gb173)); have n6_ := Aside0.mk ((by rw [hg]; exact Nat.ne_of_gt (blk_lt (g := gb172) (o := .cells #[.slice A0_0 l0_0.length c0_0, .slice A0_1 l0_1.length c0_1, .int .i64 a0_2, .int .i64 a0_3] 46 (0, 0)) (by (with_reducible repeat (first | refine blk_drewN ?_ _ | refine blk_drew ?_ | refine blk_alloc ?_ _)); exact BK172.out)) : gb173 ≠ gb172)); clear BK172; clear HB; have BK172 := n0_; have HB := n1_; have BK173 := n2_; have GW173 := n3_; have GE173 := n4_; have NB172_173 := n5_; have NB173_172 := n6_; clear n0_ n1_ n2_ n3_ n4_ n5_ n6_; clear hb hbox hg; have hnb16 := NB172_173.out; have hnc16 := NB173_172.out; have hcz17_0 : w15.cell? ⟨gb172, 0, none⟩ = some (.slice A0_0 l0_0.length c0_0) := (blk_cell BK172.out 0).trans rfl; have hcz17_1 : w15.cell? ⟨gb172, 1, none⟩ = some (.slice A0_1 l0_1.length c0_1) := (blk_cell BK172.out 1).trans rfl; have hcz17_2 : w15.cell? ⟨gb172, 2, none⟩ = some (.int .i64 a0_2) := (blk_cell BK172.out 2).trans rfl; have hcz17_3 : w15.cell? ⟨gb172, 3, none⟩ = some (.int .i64 a0_3) := (blk_cell BK172.out 3).trans rfl; have hfz17_0 := blk_frozen BK172.out 0; have hfz17_1 := blk_frozen BK172.out 1; have hfz17_2 := blk_frozen BK172.out 2; have hfz17_3 := blk_frozen BK172.out 3; have hcz18_0 : w15.cell? ⟨gb173, 0, none⟩ = some (.slice A1_0 l1_0.length c1_0) := (blk_cell BK173.out 0).trans rfl; have hcz18_1 : w15.cell? ⟨gb173, 1, none⟩ = some (.slice A1_1 l1_1.length c1_1) := (blk_cell BK173.out 1).trans rfl; have hcz18_2 : w15.cell? ⟨gb173, 2, none⟩ = some (.int .i64 a1_2) := (blk_cell BK173.out 2).trans rfl; have hcz18_3 : w15.cell? ⟨gb173, 3, none⟩ = some (.int .i64 a1_3) := (blk_cell BK173.out 3).trans rfl; have hfz18_0 := blk_frozen BK173.out 0; have hfz18_1 := blk_frozen BK173.out 1; have hfz18_2 := blk_frozen BK173.out 2; have hfz18_3 := blk_frozen BK173.out 3) | ((with_reducible refine gate_callee (f := 35) rfl ?_); refine goesL_ (some 9) rfl rfl Try.func35 (by kernel_rfl) rfl #[.slice A0_0 l0_0.length c0_0, .slice A1_0 l1_0.length c1_0] rfl (by (try simp only [List.map_toArray, List.map_cons, List.map_nil]); first | done | rfl | (simp only [List.length_drop, List.length_take]; rfl)) ?_; (with_reducible refine (laws_eqIntS.calls k _ _ l0_0 _ _ l1_0 true _ ?side1 ?side2 ?side3 ?side4 A3.out).mono ?_); (case side1 => repeat (first | exact (Kd.C_below HR0_0.out HB.out) | (with_reducible refine Kd.C_alloc ?_ _) | (with_reducible refine Kd.C_drewN ?_ _) | (with_reducible refine Kd.C_drew ?_))); (case side2 => exact HC0_0.out); (case side3 => repeat (first | exact (Kd.C_below HR1_0.out HB.out) | (with_reducible refine Kd.C_alloc ?_ _) | (with_reducible refine Kd.C_drewN ?_ _) | (with_reducible refine Kd.C_drew ?_))); (case side4 => exact HC1_0.out); rintro e w' ⟨rfl, ⟨nd, rfl⟩⟩; refine ⟨_, rfl, ?_⟩) | ((with_reducible refine gate_callee (f := 35) rfl ?_); refine goesL_ (some 15) rfl rfl Try.func35 (by kernel_rfl) rfl #[.slice A0_1 l0_1.length c0_1, .slice A1_1 l1_1.length c1_1] rfl (by (try simp only [List.map_toArray, List.map_cons, List.map_nil]); first | done | rfl | (simp only [List.length_drop, List.length_take]; rfl)) ?_; (with_reducible refine (laws_eqIntS.calls k _ _ l0_1 _ _ l1_1 true _ ?side1 ?side2 ?side3 ?side4 A5.out).mono ?_); (case side1 => repeat (first | exact (Kd.C_below HR0_1.out (by repeat (first | (with_reducible first | exact HB.out | apply below_alloc | apply pw_below_drewN | apply below_drew1 | refine below_set ?_ GE172.out | refine below_set ?_ GE173.out) | exact HB.out))) | (with_reducible refine Kd.C_alloc ?_ _) | (with_reducible refine Kd.C_drewN ?_ _) | (with_reducible refine Kd.C_drew ?_))); (case side2 => exact HC0_1.out); (case side3 => repeat (first | exact (Kd.C_below HR1_1.out (by repeat (first | (with_reducible first | exact HB.out | apply below_alloc | apply pw_below_drewN | apply below_drew1 | refine below_set ?_ GE172.out | refine below_set ?_ GE173.out) | exact HB.out))) | (with_reducible refine Kd.C_alloc ?_ _) | (with_reducible refine Kd.C_drewN ?_ _) | (with_reducible refine Kd.C_drew ?_))); (case side4 => exact HC1_1.out); rintro e w' ⟨rfl, ⟨nd, rfl⟩⟩; refine ⟨_, rfl, ?_⟩))
          go_ret
          exact ⟨by first | rfl | (simp [errW_none, errW_some] <;> rfl) | (simp [*, errW_none, errW_some] <;> rfl), by repeat (first | (with_reducible first | exact HB.out | apply below_alloc | apply pw_below_drewN | apply below_drew1 | refine below_set ?_ GE172.out | refine below_set ?_ GE173.out) | exact HB.out)⟩
      · rw [if_neg c7] at H
        have c7b0 : (a0_2 == a1_2) = false := beq_eq_false_iff_ne.mpr c7
        have c7b1 : (a0_2 != a1_2) = true := bne_iff_ne.mpr c7
        obtain rfl := Option.some.inj H
        go_enter Try.func28, Try.ntmps28
        go_wp2_with (first | ((with_reducible refine gate_dst (N := 2) rfl ?_); refine box_event ?hg (N := 2) ?hd (cs := #[.slice A0_0 l0_0.length c0_0, .slice A0_1 l0_1.length c0_1, .int .i64 a0_2, .int .i64 a0_3]) (t := 46) ?hr ?_; (case hd => rfl); (case hg => rfl); (case hr => first | (go_simp; done) | (go_simp; rfl)); intro gb172 hg w19 hbox hb; have n0_ := Aside0.mk (below_step (by repeat (first | (with_reducible first | exact HB.out | apply below_alloc | apply pw_below_drewN | apply below_drew1) | exact HB.out)) hb); have n1_ := Aside0.mk (hbox); have n2_ := Aside0.mk ((by rw [hg]; exact (below_size (by repeat (first | (with_reducible first | exact HB.out | apply below_alloc | apply pw_below_drewN | apply below_drew1) | exact HB.out))) : w.heap.size ≤ gb172)); have n3_ := Aside0.mk ((by rw [hg]; exact (below_size (by repeat (first | (with_reducible first | exact HB.out | apply below_alloc | apply pw_below_drewN | apply below_drew1) | exact HB.out))) : w.heap.size ≤ gb172)); clear HB; have HB := n0_; have BK172 := n1_; have GW172 := n2_; have GE172 := n3_; clear n0_ n1_ n2_ n3_; clear hb hbox hg) | ((with_reducible refine gate_dst (N := 3) rfl ?_); refine box_event ?hg (N := 3) ?hd (cs := #[.slice A1_0 l1_0.length c1_0, .slice A1_1 l1_1.length c1_1, .int .i64 a1_2, .int .i64 a1_3]) (t := 46) ?hr ?_; (case hd => rfl); (case hg => rfl); (case hr => first | (go_simp; done) | (go_simp; rfl)); intro gb173 hg w20 hbox hb; have n0_ := Aside0.mk (blk_below (g := gb172) (o := .cells #[.slice A0_0 l0_0.length c0_0, .slice A0_1 l0_1.length c0_1, .int .i64 a0_2, .int .i64 a0_3] 46 (0, 0)) (by (with_reducible repeat (first | refine blk_drewN ?_ _ | refine blk_drew ?_ | refine blk_alloc ?_ _)); exact BK172.out) hb); have n1_ := Aside0.mk (below_step (by repeat (first | (with_reducible first | exact HB.out | apply below_alloc | apply pw_below_drewN | apply below_drew1 | refine below_set ?_ GE172.out) | exact HB.out)) hb); have n2_ := Aside0.mk (hbox); have n3_ := Aside0.mk ((by rw [hg]; exact (below_size (by repeat (first | (with_reducible first | exact HB.out | apply below_alloc | apply pw_below_drewN | apply below_drew1 | refine below_set ?_ GE172.out) | exact HB.out))) : w.heap.size ≤ gb173)); have n4_ := Aside0.mk ((by rw [hg]; exact (below_size (by repeat (first | (with_reducible first | exact HB.out | apply below_alloc | apply pw_below_drewN | apply below_drew1 | refine below_set ?_ GE172.out) | exact HB.out))) : w.heap.size ≤ gb173)); have n5_ := Aside0.mk ((by rw [hg]; exact Nat.ne_of_lt (blk_lt (g := gb172) (o := .cells #[.slice A0_0 l0_0.length c0_0, .slice A0_1 l0_1.length c0_1, .int .i64 a0_2, .int .i64 a0_3] 46 (0, 0)) (by (with_reducible repeat (first | refine blk_drewN ?_ _ | refine blk_drew ?_ | refine blk_alloc ?_ _)); exact BK172.out)) : gb172 ≠ gb173)); have n6_ := Aside0.mk ((by rw [hg]; exact Nat.ne_of_gt (blk_lt (g := gb172) (o := .cells #[.slice A0_0 l0_0.length c0_0, .slice A0_1 l0_1.length c0_1, .int .i64 a0_2, .int .i64 a0_3] 46 (0, 0)) (by (with_reducible repeat (first | refine blk_drewN ?_ _ | refine blk_drew ?_ | refine blk_alloc ?_ _)); exact BK172.out)) : gb173 ≠ gb172)); clear BK172; clear HB; have BK172 := n0_; have HB := n1_; have BK173 := n2_; have GW173 := n3_; have GE173 := n4_; have NB172_173 := n5_; have NB173_172 := n6_; clear n0_ n1_ n2_ n3_ n4_ n5_ n6_; clear hb hbox hg; have hnb21 := NB172_173.out; have hnc21 := NB173_172.out; have hcz22_0 : w20.cell? ⟨gb172, 0, none⟩ = some (.slice A0_0 l0_0.length c0_0) := (blk_cell BK172.out 0).trans rfl; have hcz22_1 : w20.cell? ⟨gb172, 1, none⟩ = some (.slice A0_1 l0_1.length c0_1) := (blk_cell BK172.out 1).trans rfl; have hcz22_2 : w20.cell? ⟨gb172, 2, none⟩ = some (.int .i64 a0_2) := (blk_cell BK172.out 2).trans rfl; have hcz22_3 : w20.cell? ⟨gb172, 3, none⟩ = some (.int .i64 a0_3) := (blk_cell BK172.out 3).trans rfl; have hfz22_0 := blk_frozen BK172.out 0; have hfz22_1 := blk_frozen BK172.out 1; have hfz22_2 := blk_frozen BK172.out 2; have hfz22_3 := blk_frozen BK172.out 3; have hcz23_0 : w20.cell? ⟨gb173, 0, none⟩ = some (.slice A1_0 l1_0.length c1_0) := (blk_cell BK173.out 0).trans rfl; have hcz23_1 : w20.cell? ⟨gb173, 1, none⟩ = some (.slice A1_1 l1_1.length c1_1) := (blk_cell BK173.out 1).trans rfl; have hcz23_2 : w20.cell? ⟨gb173, 2, none⟩ = some (.int .i64 a1_2) := (blk_cell BK173.out 2).trans rfl; have hcz23_3 : w20.cell? ⟨gb173, 3, none⟩ = some (.int .i64 a1_3) := (blk_cell BK173.out 3).trans rfl; have hfz23_0 := blk_frozen BK173.out 0; have hfz23_1 := blk_frozen BK173.out 1; have hfz23_2 := blk_frozen BK173.out 2; have hfz23_3 := blk_frozen BK173.out 3) | ((with_reducible refine gate_callee (f := 35) rfl ?_); refine goesL_ (some 9) rfl rfl Try.func35 (by kernel_rfl) rfl #[.slice A0_0 l0_0.length c0_0, .slice A1_0 l1_0.length c1_0] rfl (by (try simp only [List.map_toArray, List.map_cons, List.map_nil]); first | done | rfl | (simp only [List.length_drop, List.length_take]; rfl)) ?_; (with_reducible refine (laws_eqIntS.calls k _ _ l0_0 _ _ l1_0 true _ ?side1 ?side2 ?side3 ?side4 A3.out).mono ?_); (case side1 => repeat (first | exact (Kd.C_below HR0_0.out HB.out) | (with_reducible refine Kd.C_alloc ?_ _) | (with_reducible refine Kd.C_drewN ?_ _) | (with_reducible refine Kd.C_drew ?_))); (case side2 => exact HC0_0.out); (case side3 => repeat (first | exact (Kd.C_below HR1_0.out HB.out) | (with_reducible refine Kd.C_alloc ?_ _) | (with_reducible refine Kd.C_drewN ?_ _) | (with_reducible refine Kd.C_drew ?_))); (case side4 => exact HC1_0.out); rintro e w' ⟨rfl, ⟨nd, rfl⟩⟩; refine ⟨_, rfl, ?_⟩) | ((with_reducible refine gate_callee (f := 35) rfl ?_); refine goesL_ (some 15) rfl rfl Try.func35 (by kernel_rfl) rfl #[.slice A0_1 l0_1.length c0_1, .slice A1_1 l1_1.length c1_1] rfl (by (try simp only [List.map_toArray, List.map_cons, List.map_nil]); first | done | rfl | (simp only [List.length_drop, List.length_take]; rfl)) ?_; (with_reducible refine (laws_eqIntS.calls k _ _ l0_1 _ _ l1_1 true _ ?side1 ?side2 ?side3 ?side4 A5.out).mono ?_); (case side1 => repeat (first | exact (Kd.C_below HR0_1.out (by repeat (first | (with_reducible first | exact HB.out | apply below_alloc | apply pw_below_drewN | apply below_drew1 | refine below_set ?_ GE172.out | refine below_set ?_ GE173.out) | exact HB.out))) | (with_reducible refine Kd.C_alloc ?_ _) | (with_reducible refine Kd.C_drewN ?_ _) | (with_reducible refine Kd.C_drew ?_))); (case side2 => exact HC0_1.out); (case side3 => repeat (first | exact (Kd.C_below HR1_1.out (by repeat (first | (with_reducible first | exact HB.out | apply below_alloc | apply pw_below_drewN | apply below_drew1 | refine below_set ?_ GE172.out | refine below_set ?_ GE173.out) | exact HB.out))) | (with_reducible refine Kd.C_alloc ?_ _) | (with_reducible refine Kd.C_drewN ?_ _) | (with_reducible refine Kd.C_drew ?_))); (case side4 => exact HC1_1.out); rintro e w' ⟨rfl, ⟨nd, rfl⟩⟩; refine ⟨_, rfl, ?_⟩))
        go_ret
        exact ⟨by first | rfl | (simp [errW_none, errW_some] <;> rfl) | (simp [*, errW_none, errW_some] <;> rfl), by repeat (first | (with_reducible first | exact HB.out | apply below_alloc | apply pw_below_drewN | apply below_drew1 | refine below_set ?_ GE172.out | refine below_set ?_ GE173.out) | exact HB.out)⟩
    · replace c6 := Bool.eq_false_iff.mpr c6
      subst c6
      have H1 : (some false) = some r := by rw [if_neg (show ¬ (false = true) by decide)] at H; exact H
      clear H
      have H := H1
      clear H1
      obtain rfl := Option.some.inj H
      go_enter Try.func28, Try.ntmps28
      go_wp2_with (first | ((with_reducible refine gate_dst (N := 2) rfl ?_); refine box_event ?hg (N := 2) ?hd (cs := #[.slice A0_0 l0_0.length c0_0, .slice A0_1 l0_1.length c0_1, .int .i64 a0_2, .int .i64 a0_3]) (t := 46) ?hr ?_; (case hd => rfl); (case hg => rfl); (case hr => first | (go_simp; done) | (go_simp; rfl)); intro gb172 hg w24 hbox hb; have n0_ := Aside0.mk (below_step (by repeat (first | (with_reducible first | exact HB.out | apply below_alloc | apply pw_below_drewN | apply below_drew1) | exact HB.out)) hb); have n1_ := Aside0.mk (hbox); have n2_ := Aside0.mk ((by rw [hg]; exact (below_size (by repeat (first | (with_reducible first | exact HB.out | apply below_alloc | apply pw_below_drewN | apply below_drew1) | exact HB.out))) : w.heap.size ≤ gb172)); have n3_ := Aside0.mk ((by rw [hg]; exact (below_size (by repeat (first | (with_reducible first | exact HB.out | apply below_alloc | apply pw_below_drewN | apply below_drew1) | exact HB.out))) : w.heap.size ≤ gb172)); clear HB; have HB := n0_; have BK172 := n1_; have GW172 := n2_; have GE172 := n3_; clear n0_ n1_ n2_ n3_; clear hb hbox hg) | ((with_reducible refine gate_dst (N := 3) rfl ?_); refine box_event ?hg (N := 3) ?hd (cs := #[.slice A1_0 l1_0.length c1_0, .slice A1_1 l1_1.length c1_1, .int .i64 a1_2, .int .i64 a1_3]) (t := 46) ?hr ?_; (case hd => rfl); (case hg => rfl); (case hr => first | (go_simp; done) | (go_simp; rfl)); intro gb173 hg w25 hbox hb; have n0_ := Aside0.mk (blk_below (g := gb172) (o := .cells #[.slice A0_0 l0_0.length c0_0, .slice A0_1 l0_1.length c0_1, .int .i64 a0_2, .int .i64 a0_3] 46 (0, 0)) (by (with_reducible repeat (first | refine blk_drewN ?_ _ | refine blk_drew ?_ | refine blk_alloc ?_ _)); exact BK172.out) hb); have n1_ := Aside0.mk (below_step (by repeat (first | (with_reducible first | exact HB.out | apply below_alloc | apply pw_below_drewN | apply below_drew1 | refine below_set ?_ GE172.out) | exact HB.out)) hb); have n2_ := Aside0.mk (hbox); have n3_ := Aside0.mk ((by rw [hg]; exact (below_size (by repeat (first | (with_reducible first | exact HB.out | apply below_alloc | apply pw_below_drewN | apply below_drew1 | refine below_set ?_ GE172.out) | exact HB.out))) : w.heap.size ≤ gb173)); have n4_ := Aside0.mk ((by rw [hg]; exact (below_size (by repeat (first | (with_reducible first | exact HB.out | apply below_alloc | apply pw_below_drewN | apply below_drew1 | refine below_set ?_ GE172.out) | exact HB.out))) : w.heap.size ≤ gb173)); have n5_ := Aside0.mk ((by rw [hg]; exact Nat.ne_of_lt (blk_lt (g := gb172) (o := .cells #[.slice A0_0 l0_0.length c0_0, .slice A0_1 l0_1.length c0_1, .int .i64 a0_2, .int .i64 a0_3] 46 (0, 0)) (by (with_reducible repeat (first | refine blk_drewN ?_ _ | refine blk_drew ?_ | refine blk_alloc ?_ _)); exact BK172.out)) : gb172 ≠ gb173)); have n6_ := Aside0.mk ((by rw [hg]; exact Nat.ne_of_gt (blk_lt (g := gb172) (o := .cells #[.slice A0_0 l0_0.length c0_0, .slice A0_1 l0_1.length c0_1, .int .i64 a0_2, .int .i64 a0_3] 46 (0, 0)) (by (with_reducible repeat (first | refine blk_drewN ?_ _ | refine blk_drew ?_ | refine blk_alloc ?_ _)); exact BK172.out)) : gb173 ≠ gb172)); clear BK172; clear HB; have BK172 := n0_; have HB := n1_; have BK173 := n2_; have GW173 := n3_; have GE173 := n4_; have NB172_173 := n5_; have NB173_172 := n6_; clear n0_ n1_ n2_ n3_ n4_ n5_ n6_; clear hb hbox hg; have hnb26 := NB172_173.out; have hnc26 := NB173_172.out; have hcz27_0 : w25.cell? ⟨gb172, 0, none⟩ = some (.slice A0_0 l0_0.length c0_0) := (blk_cell BK172.out 0).trans rfl; have hcz27_1 : w25.cell? ⟨gb172, 1, none⟩ = some (.slice A0_1 l0_1.length c0_1) := (blk_cell BK172.out 1).trans rfl; have hcz27_2 : w25.cell? ⟨gb172, 2, none⟩ = some (.int .i64 a0_2) := (blk_cell BK172.out 2).trans rfl; have hcz27_3 : w25.cell? ⟨gb172, 3, none⟩ = some (.int .i64 a0_3) := (blk_cell BK172.out 3).trans rfl; have hfz27_0 := blk_frozen BK172.out 0; have hfz27_1 := blk_frozen BK172.out 1; have hfz27_2 := blk_frozen BK172.out 2; have hfz27_3 := blk_frozen BK172.out 3; have hcz28_0 : w25.cell? ⟨gb173, 0, none⟩ = some (.slice A1_0 l1_0.length c1_0) := (blk_cell BK173.out 0).trans rfl; have hcz28_1 : w25.cell? ⟨gb173, 1, none⟩ = some (.slice A1_1 l1_1.length c1_1) := (blk_cell BK173.out 1).trans rfl; have hcz28_2 : w25.cell? ⟨gb173, 2, none⟩ = some (.int .i64 a1_2) := (blk_cell BK173.out 2).trans rfl; have hcz28_3 : w25.cell? ⟨gb173, 3, none⟩ = some (.int .i64 a1_3) := (blk_cell BK173.out 3).trans rfl; have hfz28_0 := blk_frozen BK173.out 0; have hfz28_1 := blk_frozen BK173.out 1; have hfz28_2 := blk_frozen BK173.out 2; have hfz28_3 := blk_frozen BK173.out 3) | ((with_reducible refine gate_callee (f := 35) rfl ?_); refine goesL_ (some 9) rfl rfl Try.func35 (by kernel_rfl) rfl #[.slice A0_0 l0_0.length c0_0, .slice A1_0 l1_0.length c1_0] rfl (by (try simp only [List.map_toArray, List.map_cons, List.map_nil]); first | done | rfl | (simp only [List.length_drop, List.length_take]; rfl)) ?_; (with_reducible refine (laws_eqIntS.calls k _ _ l0_0 _ _ l1_0 true _ ?side1 ?side2 ?side3 ?side4 A3.out).mono ?_); (case side1 => repeat (first | exact (Kd.C_below HR0_0.out HB.out) | (with_reducible refine Kd.C_alloc ?_ _) | (with_reducible refine Kd.C_drewN ?_ _) | (with_reducible refine Kd.C_drew ?_))); (case side2 => exact HC0_0.out); (case side3 => repeat (first | exact (Kd.C_below HR1_0.out HB.out) | (with_reducible refine Kd.C_alloc ?_ _) | (with_reducible refine Kd.C_drewN ?_ _) | (with_reducible refine Kd.C_drew ?_))); (case side4 => exact HC1_0.out); rintro e w' ⟨rfl, ⟨nd, rfl⟩⟩; refine ⟨_, rfl, ?_⟩) | ((with_reducible refine gate_callee (f := 35) rfl ?_); refine goesL_ (some 15) rfl rfl Try.func35 (by kernel_rfl) rfl #[.slice A0_1 l0_1.length c0_1, .slice A1_1 l1_1.length c1_1] rfl (by (try simp only [List.map_toArray, List.map_cons, List.map_nil]); first | done | rfl | (simp only [List.length_drop, List.length_take]; rfl)) ?_; (with_reducible refine (laws_eqIntS.calls k _ _ l0_1 _ _ l1_1 false _ ?side1 ?side2 ?side3 ?side4 A5.out).mono ?_); (case side1 => repeat (first | exact (Kd.C_below HR0_1.out (by repeat (first | (with_reducible first | exact HB.out | apply below_alloc | apply pw_below_drewN | apply below_drew1 | refine below_set ?_ GE172.out | refine below_set ?_ GE173.out) | exact HB.out))) | (with_reducible refine Kd.C_alloc ?_ _) | (with_reducible refine Kd.C_drewN ?_ _) | (with_reducible refine Kd.C_drew ?_))); (case side2 => exact HC0_1.out); (case side3 => repeat (first | exact (Kd.C_below HR1_1.out (by repeat (first | (with_reducible first | exact HB.out | apply below_alloc | apply pw_below_drewN | apply below_drew1 | refine below_set ?_ GE172.out | refine below_set ?_ GE173.out) | exact HB.out))) | (with_reducible refine Kd.C_alloc ?_ _) | (with_reducible refine Kd.C_drewN ?_ _) | (with_reducible refine Kd.C_drew ?_))); (case side4 => exact HC1_1.out); rintro e w' ⟨rfl, ⟨nd, rfl⟩⟩; refine ⟨_, rfl, ?_⟩))
      go_ret
      exact ⟨by first | rfl | (simp [errW_none, errW_some] <;> rfl) | (simp [*, errW_none, errW_some] <;> rfl), by repeat (first | (with_reducible first | exact HB.out | apply below_alloc | apply pw_below_drewN | apply below_drew1 | refine below_set ?_ GE172.out | refine below_set ?_ GE173.out) | exact HB.out)⟩
  · replace c4 := Bool.eq_false_iff.mpr c4
    subst c4
    have H1 : (some false) = some r := by rw [if_neg (show ¬ (false = true) by decide)] at H; exact H
    clear H
    have H := H1
    clear H1
    obtain rfl := Option.some.inj H
    go_enter Try.func28, Try.ntmps28
    go_wp2_with (first | ((with_reducible refine gate_dst (N := 2) rfl ?_); refine box_event ?hg (N := 2) ?hd (cs := #[.slice A0_0 l0_0.length c0_0, .slice A0_1 l0_1.length c0_1, .int .i64 a0_2, .int .i64 a0_3]) (t := 46) ?hr ?_; (case hd => rfl); (case hg => rfl); (case hr => first | (go_simp; done) | (go_simp; rfl)); intro gb172 hg w29 hbox hb; have n0_ := Aside0.mk (below_step (by repeat (first | (with_reducible first | exact HB.out | apply below_alloc | apply pw_below_drewN | apply below_drew1) | exact HB.out)) hb); have n1_ := Aside0.mk (hbox); have n2_ := Aside0.mk ((by rw [hg]; exact (below_size (by repeat (first | (with_reducible first | exact HB.out | apply below_alloc | apply pw_below_drewN | apply below_drew1) | exact HB.out))) : w.heap.size ≤ gb172)); have n3_ := Aside0.mk ((by rw [hg]; exact (below_size (by repeat (first | (with_reducible first | exact HB.out | apply below_alloc | apply pw_below_drewN | apply below_drew1) | exact HB.out))) : w.heap.size ≤ gb172)); clear HB; have HB := n0_; have BK172 := n1_; have GW172 := n2_; have GE172 := n3_; clear n0_ n1_ n2_ n3_; clear hb hbox hg) | ((with_reducible refine gate_dst (N := 3) rfl ?_); refine box_event ?hg (N := 3) ?hd (cs := #[.slice A1_0 l1_0.length c1_0, .slice A1_1 l1_1.length c1_1, .int .i64 a1_2, .int .i64 a1_3]) (t := 46) ?hr ?_; (case hd => rfl); (case hg => rfl); (case hr => first | (go_simp; done) | (go_simp; rfl)); intro gb173 hg w30 hbox hb; have n0_ := Aside0.mk (blk_below (g := gb172) (o := .cells #[.slice A0_0 l0_0.length c0_0, .slice A0_1 l0_1.length c0_1, .int .i64 a0_2, .int .i64 a0_3] 46 (0, 0)) (by (with_reducible repeat (first | refine blk_drewN ?_ _ | refine blk_drew ?_ | refine blk_alloc ?_ _)); exact BK172.out) hb); have n1_ := Aside0.mk (below_step (by repeat (first | (with_reducible first | exact HB.out | apply below_alloc | apply pw_below_drewN | apply below_drew1 | refine below_set ?_ GE172.out) | exact HB.out)) hb); have n2_ := Aside0.mk (hbox); have n3_ := Aside0.mk ((by rw [hg]; exact (below_size (by repeat (first | (with_reducible first | exact HB.out | apply below_alloc | apply pw_below_drewN | apply below_drew1 | refine below_set ?_ GE172.out) | exact HB.out))) : w.heap.size ≤ gb173)); have n4_ := Aside0.mk ((by rw [hg]; exact (below_size (by repeat (first | (with_reducible first | exact HB.out | apply below_alloc | apply pw_below_drewN | apply below_drew1 | refine below_set ?_ GE172.out) | exact HB.out))) : w.heap.size ≤ gb173)); have n5_ := Aside0.mk ((by rw [hg]; exact Nat.ne_of_lt (blk_lt (g := gb172) (o := .cells #[.slice A0_0 l0_0.length c0_0, .slice A0_1 l0_1.length c0_1, .int .i64 a0_2, .int .i64 a0_3] 46 (0, 0)) (by (with_reducible repeat (first | refine blk_drewN ?_ _ | refine blk_drew ?_ | refine blk_alloc ?_ _)); exact BK172.out)) : gb172 ≠ gb173)); have n6_ := Aside0.mk ((by rw [hg]; exact Nat.ne_of_gt (blk_lt (g := gb172) (o := .cells #[.slice A0_0 l0_0.length c0_0, .slice A0_1 l0_1.length c0_1, .int .i64 a0_2, .int .i64 a0_3] 46 (0, 0)) (by (with_reducible repeat (first | refine blk_drewN ?_ _ | refine blk_drew ?_ | refine blk_alloc ?_ _)); exact BK172.out)) : gb173 ≠ gb172)); clear BK172; clear HB; have BK172 := n0_; have HB := n1_; have BK173 := n2_; have GW173 := n3_; have GE173 := n4_; have NB172_173 := n5_; have NB173_172 := n6_; clear n0_ n1_ n2_ n3_ n4_ n5_ n6_; clear hb hbox hg; have hnb31 := NB172_173.out; have hnc31 := NB173_172.out; have hcz32_0 : w30.cell? ⟨gb172, 0, none⟩ = some (.slice A0_0 l0_0.length c0_0) := (blk_cell BK172.out 0).trans rfl; have hcz32_1 : w30.cell? ⟨gb172, 1, none⟩ = some (.slice A0_1 l0_1.length c0_1) := (blk_cell BK172.out 1).trans rfl; have hcz32_2 : w30.cell? ⟨gb172, 2, none⟩ = some (.int .i64 a0_2) := (blk_cell BK172.out 2).trans rfl; have hcz32_3 : w30.cell? ⟨gb172, 3, none⟩ = some (.int .i64 a0_3) := (blk_cell BK172.out 3).trans rfl; have hfz32_0 := blk_frozen BK172.out 0; have hfz32_1 := blk_frozen BK172.out 1; have hfz32_2 := blk_frozen BK172.out 2; have hfz32_3 := blk_frozen BK172.out 3; have hcz33_0 : w30.cell? ⟨gb173, 0, none⟩ = some (.slice A1_0 l1_0.length c1_0) := (blk_cell BK173.out 0).trans rfl; have hcz33_1 : w30.cell? ⟨gb173, 1, none⟩ = some (.slice A1_1 l1_1.length c1_1) := (blk_cell BK173.out 1).trans rfl; have hcz33_2 : w30.cell? ⟨gb173, 2, none⟩ = some (.int .i64 a1_2) := (blk_cell BK173.out 2).trans rfl; have hcz33_3 : w30.cell? ⟨gb173, 3, none⟩ = some (.int .i64 a1_3) := (blk_cell BK173.out 3).trans rfl; have hfz33_0 := blk_frozen BK173.out 0; have hfz33_1 := blk_frozen BK173.out 1; have hfz33_2 := blk_frozen BK173.out 2; have hfz33_3 := blk_frozen BK173.out 3) | ((with_reducible refine gate_callee (f := 35) rfl ?_); refine goesL_ (some 9) rfl rfl Try.func35 (by kernel_rfl) rfl #[.slice A0_0 l0_0.length c0_0, .slice A1_0 l1_0.length c1_0] rfl (by (try simp only [List.map_toArray, List.map_cons, List.map_nil]); first | done | rfl | (simp only [List.length_drop, List.length_take]; rfl)) ?_; (with_reducible refine (laws_eqIntS.calls k _ _ l0_0 _ _ l1_0 false _ ?side1 ?side2 ?side3 ?side4 A3.out).mono ?_); (case side1 => repeat (first | exact (Kd.C_below HR0_0.out HB.out) | (with_reducible refine Kd.C_alloc ?_ _) | (with_reducible refine Kd.C_drewN ?_ _) | (with_reducible refine Kd.C_drew ?_))); (case side2 => exact HC0_0.out); (case side3 => repeat (first | exact (Kd.C_below HR1_0.out HB.out) | (with_reducible refine Kd.C_alloc ?_ _) | (with_reducible refine Kd.C_drewN ?_ _) | (with_reducible refine Kd.C_drew ?_))); (case side4 => exact HC1_0.out); rintro e w' ⟨rfl, ⟨nd, rfl⟩⟩; refine ⟨_, rfl, ?_⟩))
    go_ret
    exact ⟨by first | rfl | (simp [errW_none, errW_some] <;> rfl) | (simp [*, errW_none, errW_some] <;> rfl), by repeat (first | (with_reducible first | exact HB.out | apply below_alloc | apply pw_below_drewN | apply below_drew1 | refine below_set ?_ GE172.out | refine below_set ?_ GE173.out) | exact HB.out)⟩

end Go.Proofs.Ytpoblnigmfbnfaa.PFnExactTwice
