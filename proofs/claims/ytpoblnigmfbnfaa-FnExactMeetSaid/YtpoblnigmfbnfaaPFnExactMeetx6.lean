-- Printed out of the translation, hand-written contracts beside it; checked by the kernel alone.
import Derived.Test.YtpoblnigmfbnfaaPFnExactMeetx0
import Derived.Test.YtpoblnigmfbnfaaPFnExactMeetx5
namespace Go.Proofs.Ytpoblnigmfbnfaa.PFnExactMeet
open Go.RowKit Go.Proofs.YtpoblnigmfbnfaaW.PrintWords Go.Proofs.YtpoblnigmfbnfaaW.PrintLast Go.Proofs.YtpoblnigmfbnfaaW.PrintMore
attribute [local go_sem] max2_int min2_int max_two min_two max_three min_three max_four min_four   -- for this text's walks alone
set_option linter.unusedVariables false
set_option linter.unusedSimpArgs false

/-! ### impl_Meet: function 30 -/
section
attribute [local go_sem] Oper.semAt_some
/-! ### a range over an iterator that keeps a row of its own -/
/-- All that lay is as it lay, but for two blocks; new ones may have come. -/
def KeepTwo (A B : World) (r X : Nat) : Prop := A.heap.size ≤ B.heap.size ∧ (∀ k, k < A.heap.size → k ≠ r → k ≠ X → B.heap[k]? = A.heap[k]?) ∧ B.os = A.os ∧ B.tape = A.tape ∧ B.output = A.output
/-- What a round leaves alone: the iterator's row and what is told. -/
def RoundKeeps (prot : Nat → Prop) (X : Nat) (A B : World) : Prop := A.heap.size ≤ B.heap.size ∧ ∀ k, k = X ∨ prot k → B.heap[k]? = A.heap[k]?
/-- The contract of an iterator value that lays a row at the heap's end and writes there alone. -/
def SeqRow {α : Type} (F : Fence) (n : Nat) (P : Program) (g : Nat) (lb : Array Value) (encs : α → Array Value) (prot : Nat → Prop) (xs : List α) (w : World) : Prop :=
  ∀ (l : Nat) (J Jx : List α → World → Prop) (W : World), w.heap.size ≤ W.heap.size → (∀ k, k < w.heap.size → W.heap[k]? = w.heap[k]?) →
    (∀ s A B, J s A → KeepTwo A B W.heap.size W.heap.size → J s B) → (∀ s A B, Jx s A → KeepTwo A B W.heap.size W.heap.size → Jx s B) →
    (∀ pre x W1, J pre W1 → pre ++ [x] <+: xs → W.heap.size < W1.heap.size → YieldAt F (n - 1) P l (encs x) W1 fun e W' =>
      (e = .returned (.bool true) ∧ J (pre ++ [x]) W' ∧ RoundKeeps prot W.heap.size W1 W') ∨ (e = .returned (.bool false) ∧ Jx (pre ++ [x]) W')) →
    J [] W →
    CallsIn F n P g (#[.func (.yield l) #[] #[]] ++ lb) W fun e W' => (∃ v, e = .returned v) ∧ (J xs W' ∨ ∃ pre, pre <+: xs ∧ Jx pre W')
/-- How the body of a round may be left. -/
def rowPost {α : Type} (prot : Nat → Prop) (X : Nat) (I : List α → World → Prop) (Ix : Code → List α → World → Prop) (xs : List α) (W : World) : Exit → Act → World → Prop
  | .normal, _, W' => KeepsOthers W W' ∧ RoundKeeps prot X W W' ∧ I xs W'
  | .ret, _, W' => KeepsOthers W W' ∧ Ix .ret xs W'
  | .exit id, _, W' => KeepsOthers W W' ∧ Ix (.exit id) xs W'
  | .goto t, _, W' => KeepsOthers W W' ∧ Ix (.goto t) xs W'
  | .panic _, _, _ => False
  | .outgrown, _, _ => False
theorem keepTwo_alloc (w : World) (o : Obj) (r X : Nat) : KeepTwo w (w.alloc o) r X := ⟨by simp, fun k hk _ _ => Below.heap_alloc w o k hk, rfl, rfl, rfl⟩
theorem keepTwo_put (W : World) (r X : Nat) (o : Obj) : KeepTwo W (W.putObj r o) r X := ⟨by simp, fun k _ h _ => World.putObj_heap_other h, rfl, rfl, rfl⟩
theorem keepTwo_one {A B : World} {X : Nat} (h : KeepTwo A B X X) (r : Nat) : KeepTwo A B r X := ⟨h.1, fun k hk _ h2 => h.2.1 k hk h2 h2, h.2.2⟩
theorem keepTwo_drewN (W : World) (n r X : Nat) : KeepTwo W (W.drewN n) r X := ⟨Nat.le_refl _, fun _ _ _ _ => rfl, rfl, rfl, rfl⟩
theorem keepTwo_trans {A B C : World} {r X : Nat} (h : KeepTwo A B r X) (k : KeepTwo B C r X) : KeepTwo A C r X := ⟨Nat.le_trans h.1 k.1, fun i hi h1 h2 => (k.2.1 i (Nat.lt_of_lt_of_le hi h.1) h1 h2).trans (h.2.1 i hi h1 h2), k.2.2.1.trans h.2.2.1, k.2.2.2.1.trans h.2.2.2.1, k.2.2.2.2.trans h.2.2.2.2⟩
theorem keepTwo_set (W : World) (X i : Nat) (v : Value) : KeepTwo W (W.setCell ⟨X, i, none⟩ v) X X := ⟨by simp, fun k _ h _ => Below.heap_setCell W ⟨X, i, none⟩ v k h, rfl, rfl, rfl⟩
section
variable {F : Fence} {n : Nat} {P : Program}
theorem rangeFunc_row {α : Type} {g : Operand} {ps : Array Tmp} {assign body : Code} {Q : Exit → Act → World → Prop} {a : Act} {w : World}
    (hro : F.round = none) (h1 : 1 ≤ n) {gf : Nat} {lb : Array Value} (hg : a.eval g = .func (.func gf) #[] lb) (hFg : F.fn gf) (eg : ∀ args w, (callFunc gf args).run P w = .ok (.enter gf args) w)
    {encs : α → Array Value} {prot : Nat → Prop} {xs : List α} (hseq : SeqRow F (n - 1) P gf lb encs prot xs w) (hprot : ∀ k, prot k → k < w.heap.size) (hps : ∀ x, (encs x).size = ps.size)
    (I : List α → World → Prop) (Ix : Code → List α → World → Prop)
    (hI : ∀ s A B, I s A → KeepTwo A B (w.heap.size + 1) (w.heap.size + 2) → I s B) (hIx : ∀ c s A B, Ix c s A → KeepTwo A B (w.heap.size + 1) (w.heap.size + 2) → Ix c s B) (h0 : I [] w) (a₁ : α → Act)
    (hassign : ∀ (l : Nat) (x : α) (W : World) (K : Act → World → Prop), K (a₁ x) W →
      assign.wpIn (F.inRound l) (n - 1 - 1) P (Exit.then K (fun _ _ _ => False)) { tmps := (ps.zip (encs x)).foldl (fun t (p, v) => t.setIfInBounds p v) a.tmps, defers := [] } W)
    (hbody : ∀ (l : Nat) (pre : List α) (x : α) (W : World), I pre W → pre ++ [x] <+: xs → w.heap.size + 2 < W.heap.size → body.wpIn (F.inRound l) (n - 1 - 1) P (rowPost prot (w.heap.size + 2) I Ix (pre ++ [x]) W) (a₁ x) W)
    (hdone : ∀ (D : Nat) (W : World), D = w.heap.size → I xs W → W.heap[D]? = some (.deferred (some [])) → Q .normal { a with defers := { target := .collected D, args := #[] } :: a.defers } W)
    (hstop : ∀ (D : Nat) (c : Code) (pre : List α) (W : World), D = w.heap.size → pre <+: xs → Ix c pre W → W.heap[D]? = some (.deferred (some [])) → c.wpIn F n P Q { a with defers := { target := .collected D, args := #[] } :: a.defers } W) :
    (Code.rangeFunc g ps assign body).wpIn F n P Q a w := by
  refine wpIn_rangeFunc ?_
  intro fn hfn
  rw [hro]
  obtain ⟨rec, hrec⟩ : ∃ rec : LoopState → Option Code → Loop, rec = fun st pe => { state := st, pending := pe, fn, tmps := a.tmps, params := ps, assign, body, defers := w.heap.size } := ⟨_, rfl⟩
  obtain ⟨W1, hW1⟩ : ∃ W1, (w.alloc (.deferred (some []))).alloc (.loop (rec .ready none)) = W1 := ⟨_, rfl⟩
  have hs1 : W1.heap.size = w.heap.size + 2 := by rw [← hW1]; simp
  have hL1 : W1.heap[w.heap.size + 1]? = some (.loop (rec .ready none)) := by
    rw [← hW1]; have := World.alloc_heap_new (w.alloc (.deferred (some []))) (.loop (rec .ready none)); rwa [World.size_alloc] at this
  have hK1 : W1.heap[w.heap.size]? = some (.deferred (some [])) := by
    rw [← hW1]; exact (Below.heap_alloc _ _ _ (by simp)).trans (World.alloc_heap_new w _)
  have hI1 : I [] W1 := by rw [← hW1]; exact hI _ _ _ (hI _ _ _ h0 (keepTwo_alloc _ _ _ _)) (keepTwo_alloc _ _ _ _)
  have hb1 : ∀ k, k < w.heap.size → W1.heap[k]? = w.heap[k]? := fun k hk => by
    rw [← hW1]; exact (Below.heap_alloc _ _ k (by simp; omega)).trans (Below.heap_alloc w _ k hk)
  refine ⟨w.heap.size + 1, [{ target := .collected w.heap.size, args := #[] }], W1, { target := .fn (.func gf) lb, args := #[.func (.yield (w.heap.size + 1)) #[] #[]] }, W1, gf,
    #[.func (.yield (w.heap.size + 1)) #[] #[]] ++ lb, W1, ?_, ?_, ?_, ?_, fun _ => h1, ?_⟩
  · rw [← hW1, hrec]; exact run_enterLoop_outer _ _ _ _ _
  · simp only [resolve, hg]
    simp [go_sem]
  · intro f' hf'; simp [Target.leads] at hf'; subst hf'; exact hFg
  · simp [invoke, go_sem, eg]
  · have lift : ∀ {A B : World} {i : Nat} {o : Obj}, KeepTwo A B W1.heap.size W1.heap.size → i < W1.heap.size → A.heap[i]? = some o → B.heap[i]? = some o := fun hk hi h => (hk.2.1 _ (Array.getElem?_eq_some_iff.1 h).1 (by omega) (by omega)).trans h
    refine (hseq (w.heap.size + 1)
      (fun pre W => I pre W ∧ W.heap[w.heap.size + 1]? = some (.loop (rec .ready none)) ∧ W.heap[w.heap.size]? = some (.deferred (some [])) ∧ w.heap.size + 2 ≤ W.heap.size)
      (fun pre W => ∃ c, Ix c pre W ∧ W.heap[w.heap.size + 1]? = some (.loop (rec .done (some c))) ∧ W.heap[w.heap.size]? = some (.deferred (some [])))
      W1 (by omega) hb1
      (fun s A B hs hk => ⟨hI s A B hs.1 (by have := keepTwo_one hk (w.heap.size + 1); rwa [hs1] at this), lift hk (by omega) hs.2.1, lift hk (by omega) hs.2.2.1, Nat.le_trans hs.2.2.2 hk.1⟩)
      (fun s A B hs hk => by
        obtain ⟨c, hc, hl, hkk⟩ := hs
        exact ⟨c, hIx c s A B hc (by have := keepTwo_one hk (w.heap.size + 1); rwa [hs1] at this), lift hk (by omega) hl, lift hk (by omega) hkk⟩)
      ?_ ⟨hI1, hL1, hK1, by omega⟩).mono ?_
    · rintro pre x W ⟨hi, hl, hk, _⟩ hpre hsz
      have hlt : w.heap.size + 1 < W.heap.size := (Array.getElem?_eq_some_iff.1 hl).1
      have hy := run_yield (P := P) (args := encs x) hl (by rw [hrec]; exact hps x)
      rw [hrec] at hy
      refine ⟨fn, _, assign, body, hy, roundIn_of_wpIn hfn (hassign _ x W _ ⟨_, run_beginRound hl (by rw [hrec]), ?_⟩)⟩
      have hl2 : (W.putObj (w.heap.size + 1) (.loop { rec .ready none with state := .busy })).heap[w.heap.size + 1]? = some (.loop { rec .ready none with state := .busy }) := World.putObj_heap_same hlt
      have hk2 : (W.putObj (w.heap.size + 1) (.loop { rec .ready none with state := .busy })).heap[w.heap.size]? = some (.deferred (some [])) := (World.putObj_heap_other (by omega)).trans hk
      refine wpIn_mono (hbody _ pre x _ (hI _ _ _ hi (keepTwo_put _ _ _ _)) hpre (by simp; omega)) ?_
      have fin : ∀ (jump : Option Code) (W3 : World), KeepsOthers (W.putObj (w.heap.size + 1) (.loop { rec .ready none with state := .busy })) W3 →
          (Instr.endRound (w.heap.size + 1) jump).run P W3 = .ok (.bool jump.isNone) (W3.putObj (w.heap.size + 1) (.loop (rec (if jump.isNone then .ready else .done) jump))) ∧
          W3.heap[w.heap.size + 1]? = some (.loop { rec .ready none with state := .busy }) ∧
          (W3.putObj (w.heap.size + 1) (.loop (rec (if jump.isNone then .ready else .done) jump))).heap[w.heap.size + 1]? = some (.loop (rec (if jump.isNone then .ready else .done) jump)) ∧
          (W3.putObj (w.heap.size + 1) (.loop (rec (if jump.isNone then .ready else .done) jump))).heap[w.heap.size]? = some (.deferred (some [])) := fun jump W3 hk3 => by
        have hl3 := hk3.same _ _ hl2 rfl
        have := run_endRound (P := P) jump hl3
        rw [hrec] at this ⊢
        exact ⟨this, by rw [hrec] at hl3; exact hl3, World.putObj_heap_same (Array.getElem?_eq_some_iff.1 hl3).1, (World.putObj_heap_other (by omega)).trans (hk3.same _ _ hk2 rfl)⟩
      rintro e a3 W3 hp
      cases e with
      | normal =>
        obtain ⟨hk3, hkp3, hi3⟩ := hp
        obtain ⟨hr, hl3, hl4, hk4⟩ := fin none W3 hk3
        refine ⟨_, _, hr, .inl ⟨rfl, ⟨hI _ _ _ hi3 (keepTwo_put _ _ _ _), hl4, hk4, ?_⟩, ?_, fun k hk' => ?_⟩⟩
        · have := hkp3.1
          simp at this ⊢
          omega
        · have := hkp3.1
          simp at this ⊢
          omega
        · have hne : k ≠ w.heap.size + 1 := by
            rcases hk' with h | h
            · omega
            · have := hprot k h
              omega
          exact (World.putObj_heap_other hne).trans ((hkp3.2 k (by rw [← hs1]; exact hk')).trans (World.putObj_heap_other hne))
      | ret =>
        obtain ⟨hk3, hi3⟩ := hp
        obtain ⟨hr, hl3, hl4, hk4⟩ := fin (some .ret) W3 hk3
        exact ⟨_, _, hr, .inr ⟨rfl, .ret, hIx _ _ _ _ hi3 (keepTwo_put _ _ _ _), hl4, hk4⟩⟩
      | exit id =>
        obtain ⟨hk3, hi3⟩ := hp
        obtain ⟨hr, hl3, hl4, hk4⟩ := fin (some (.exit id)) W3 hk3
        exact ⟨_, _, hr, .inr ⟨rfl, .exit id, hIx _ _ _ _ hi3 (keepTwo_put _ _ _ _), hl4, hk4⟩⟩
      | goto t =>
        obtain ⟨hk3, hi3⟩ := hp
        obtain ⟨hr, hl3, hl4, hk4⟩ := fin (some (.goto t)) W3 hk3
        exact ⟨_, _, hr, .inr ⟨rfl, .goto t, hIx _ _ _ _ hi3 (keepTwo_put _ _ _ _), hl4, hk4⟩⟩
      | panic ch => exact hp.elim
      | outgrown => exact hp.elim
    · rintro e W2 ⟨⟨v, rfl⟩, (⟨hi, hl, hk, _⟩ | ⟨pre, hSp, c, hi, hl, hk⟩)⟩
      · exact ⟨none, _, by have := run_endLoop (P := P) hl (by rw [hrec]; simp); rw [hrec] at this; exact this, hdone _ _ rfl (hI _ _ _ hi (keepTwo_put _ _ _ _)) ((World.putObj_heap_other (by omega)).trans hk)⟩
      · exact ⟨some c, _, by have := run_endLoop (P := P) hl (by rw [hrec]; simp); rw [hrec] at this; exact this, hstop _ c pre _ rfl hSp (hIx c _ _ _ hi (keepTwo_put _ _ _ _)) ((World.putObj_heap_other (by omega)).trans hk)⟩
end
/-- A round's step of the index, from the last axis on. -/
def spotIn (ds ss : List Int) : Nat → List Int → Int → Bool × List Int × Int
  | 0, ix, at_ => (false, ix, at_)
  | j + 1, ix, at_ => if wrap64 (rd ix (j : Int) + 1) < rd ds (j : Int) then (true, ix.set j (wrap64 (rd ix (j : Int) + 1)), wrap64 (at_ + rd ss (j : Int))) else spotIn ds ss j (ix.set j 0) (wrap64 (wrap64 (at_ + rd ss (j : Int)) - wrap64 (rd ss (j : Int) * rd ds (j : Int))))
/-- The places that come, one behind the other. -/
def spotsF (ds ss : List Int) : Nat → List Int → Int → Option (List Int)
  | 0, _, _ => none
  | k + 1, ix, at_ => if (spotIn ds ss ds.length ix at_).1 = true then (spotsF ds ss k (spotIn ds ss ds.length ix at_).2.1 (spotIn ds ss ds.length ix at_).2.2).bind fun t => some (at_ :: t) else some [at_]
theorem spotsF_mono (ds ss : List Int) : ∀ k ix a, LeO (spotsF ds ss k ix a) (spotsF ds ss (k + 1) ix a)
  | 0, _, _ => fun r h => by simp [spotsF] at h
  | k + 1, ix, a => by
    simp only [spotsF]
    exact LeO.ite (LeO.bind (spotsF_mono ds ss k _ _) (fun _ => LeO.refl _)) (LeO.refl _)
theorem spotIn_len (ds ss : List Int) : ∀ j ix a, (spotIn ds ss j ix a).2.1.length = ix.length
  | 0, _, _ => rfl
  | j + 1, ix, a => by
    simp only [spotIn]
    split
    · simp
    · rw [spotIn_len]
      simp
/-- The marks that a run of places leaves. -/
def mkF : List Bool → List Int → List Bool
  | m, [] => m
  | m, p :: ps => mkF (m.set p.toNat true) ps
end
def impl_Meet.f (k : Nat) (l0_0 : List Int) (l0_1 : List Int) (a0_2 : Int) (a0_3 : Int) (l1_0 : List Int) (l1_1 : List Int) (a1_2 : Int) (a1_3 : Int) : Option Bool :=
  (impl_ViewOk.f k l0_0 l0_1 a0_2 a0_3).bind fun t => if t = true then ((impl_ViewOk.f k l1_0 l1_1 a1_2 a1_3).bind fun u => if u = true then (if a0_3 = a1_3 then (if ((l0_0.length ≤ l0_1.length ∧ l0_0.length ≤ 1000) ∧ (l1_0.length ≤ l1_1.length ∧ l1_0.length ≤ 1000)) ∧ 0 ≤ a0_3 ∧ a0_3 ≤ 1000000 then (spotsF l0_0 l0_1 k (List.replicate l0_0.length 0) a0_2).bind fun xs => (spotsF l1_0 l1_1 k (List.replicate l1_0.length 0) a1_2).bind fun ys => if (∀ p ∈ xs, 0 ≤ p ∧ p < a0_3) ∧ (∀ p ∈ ys, 0 ≤ p ∧ p < a0_3) then some (ys.any fun p => rdOf false (mkF (List.replicate a0_3.toNat false) xs) p) else none else none) else some false) else some false) else some false
theorem impl_Meet.mono : ∀ a0 a1 a2 a3 b0 b1 b2 b3 k, LeO (impl_Meet.f k a0 a1 a2 a3 b0 b1 b2 b3) (impl_Meet.f (k + 1) a0 a1 a2 a3 b0 b1 b2 b3) := by
  intro a0 a1 a2 a3 b0 b1 b2 b3 k
  unfold impl_Meet.f
  repeat' first
      | (with_reducible exact impl_ViewOk.mono _ _ _ _ _)
      | (with_reducible exact spotsF_mono _ _ _ _ _)
      | (with_reducible exact LeO.refl _)
      | (with_reducible exact LeO.none _)
      | (with_reducible refine LeO.ite ?_ ?_)
      | (with_reducible refine LeO.bind ?_ (fun _ => ?_))
section
attribute [local go_sem] Oper.semAt_some
attribute [local go_sem] Oper.semAt_some
set_option maxHeartbeats 4000000 in
set_option maxRecDepth 100000 in
theorem spots1_in (n : Nat) (hn : 1 ≤ n) (l q1 q2 q3 : Nat) (A0 A1 : Option Addr) (c0 c1 k : Nat) (ds ss xs : List Int) (off : Int) (prot : Nat → Prop) (wT : World)
    (hr0 : Kd.C (Kd.int .i64) wT A0 ds.length ds) (hr1 : Kd.C (Kd.int .i64) wT A1 ss.length ss) (hl : ds.length ≤ ss.length) (hl2 : ds.length ≤ 1000)
    (hprot : ∀ g, g < wT.heap.size ∨ g = q1 ∨ g = q2 ∨ g = q3 → prot g) (hxs : spotsF ds ss k (List.replicate ds.length 0) off = some xs)
    (J Jx : List Int → World → Prop) (W : World) (hW : ∀ g, g < wT.heap.size → W.heap[g]? = wT.heap[g]?) (hlt : ∀ g, prot g → g < W.heap.size)
    (kk1 : W.heap[q1]? = some (.cells #[.slice A0 ds.length c0] 41 (0, 0))) (kk2 : W.heap[q2]? = some (.cells #[.int .i64 off] 3 (0, 0))) (kk3 : W.heap[q3]? = some (.cells #[.slice A1 ss.length c1] 41 (0, 0)))
    (hJ : ∀ s A B, J s A → KeepTwo A B W.heap.size W.heap.size → J s B) (hJx : ∀ s A B, Jx s A → KeepTwo A B W.heap.size W.heap.size → Jx s B)
    (hY : ∀ pre x W1, J pre W1 → pre ++ [x] <+: xs → W.heap.size < W1.heap.size → YieldAt Fence.wide (n - 1) Try.prog l #[.int .i64 x] W1 fun e W' =>
      (e = .returned (.bool true) ∧ J (pre ++ [x]) W' ∧ RoundKeeps prot W.heap.size W1 W') ∨ (e = .returned (.bool false) ∧ Jx (pre ++ [x]) W'))
    (h0 : J [] W) :
    CallsIn Fence.wide n Try.prog 90 #[.func (.yield l) #[] #[], .pointer (some ⟨q1, 0, none⟩), .pointer (some ⟨q2, 0, none⟩), .pointer (some ⟨q3, 0, none⟩)] W fun e W' => (∃ v, e = .returned v) ∧ (J xs W' ∨ ∃ pre, pre <+: xs ∧ Jx pre W') := by
  have k1 : W.cell? ⟨q1, 0, none⟩ = some (.slice A0 ds.length c0) := (blk_cell kk1 0).trans rfl
  have k2 : W.cell? ⟨q2, 0, none⟩ = some (.int .i64 off) := (blk_cell kk2 0).trans rfl
  have hmk := print_make_int (P := Try.prog) 41 3 (.int .i64 0) 8 Try.underlying41 info3 rfl (by decide) (ds.length : Int) (by omega) (by omega)
  have hown := own_made' W W.heap.size 3 .i64 ds.length (Nat.le_refl _) (by omega)
  have hl1 : W.heap.size + 1 = (W.alloc (.cells (madeCells #[.int .i64 0] ds.length) 3)).heap.size := by simp
  obtain ⟨W1, hW1⟩ : ∃ W1, W1 = W.alloc (.cells (madeCells #[.int .i64 0] ds.length) 3) := ⟨_, rfl⟩
  rw [Int.toNat_natCast] at hmk
  have hmk1 := hmk W
  rw [← hW1] at hmk1 hown hl1
  have blk1 : ∀ (g : Nat) (o : Obj), W.heap[g]? = some o → W1.heap[g]? = some o := fun g o h => by rw [hW1]; exact blk_alloc h _
  have k2' : W1.cell? ⟨q2, 0, none⟩ = some (.int .i64 off) := (blk_cell (blk1 _ _ kk2) 0).trans rfl
  have hR : Kd.R (Kd.int .i64) 3 W1 W.heap.size (fun g => g = W.heap.size) (.slice (some ⟨W.heap.size, 0, none⟩) ds.length ds.length) (List.replicate ds.length 0) :=
    Kd.R_of_own (by exact hown) (fun g hg => by simpa [Value.ownBlock] using hg.symm)
  have hKT : KeepTwo W W1 W.heap.size W.heap.size := by rw [hW1]; exact keepTwo_alloc _ _ _ _
  have hJ1 := hJ _ _ _ h0 hKT
  clear hmk hown h0 hW1
  have HR0 := Aside0.mk hr0
  have HR1 := Aside0.mk hr1
  have HL := Aside0.mk (And.intro hl hl2)
  have HX := Aside0.mk hxs
  have HJ := Aside0.mk hJ
  have HJX := Aside0.mk hJx
  have HY := Aside0.mk hY
  have HRI := Aside0.mk hR
  have HJ1 := Aside0.mk hJ1
  have HP := Aside0.mk (And.intro hprot hlt)
  have HW := Aside0.mk hW
  have KK := Aside0.mk (And.intro (blk1 _ _ kk1) (And.intro (blk1 _ _ kk2) (blk1 _ _ kk3)))
  have KW := Aside0.mk (show (∀ g, prot g → W1.heap[g]? = W.heap[g]?) from fun g hg => hKT.2.1 g (hlt g hg) (Nat.ne_of_lt (hlt g hg)) (Nat.ne_of_lt (hlt g hg)))
  have HS1 := Aside0.mk hl1
  clear hr0 hr1 hl hl2 hxs hJ hJx hY hR hJ1 hprot hlt hW kk1 kk2 kk3 blk1 hKT hl1
  refine callsIn_of_wp Try.func90 rfl trivial ?_ rfl
  simp only [Try.ntmps90, List.size_toArray, List.length_cons, List.length_nil, Nat.reduceAdd, Nat.reduceSub, Array.replicate_succ, Array.replicate_zero, List.push_toArray, List.append_toArray, List.nil_append, List.cons_append]
  gi_wp2
  clear k1 k2 k2' hmk1
  gi_loopg [6] k (fun kq va wr => ∃ (pre ix ys : List Int) (a : Int), va = .int .i64 a ∧ Aside0 (spotsF ds ss kq ix a = some ys ∧ pre ++ ys = xs ∧ ix.length = ds.length) ∧ Aside0 (Kd.R (Kd.int .i64) 3 wr W.heap.size (fun g => g = W.heap.size) (.slice (some ⟨W.heap.size, 0, none⟩) ds.length ds.length) ix) ∧ Aside0 (∀ g, prot g → wr.heap[g]? = W1.heap[g]?) ∧ Aside0 (J pre wr ∧ W.heap.size < wr.heap.size))
  case atStart => exact ⟨[], List.replicate ds.length 0, xs, off, rfl, ⟨HX.out, rfl, by simp⟩, HRI, ⟨fun g _ => rfl⟩, ⟨HJ1.out, by have := HS1.out; omega⟩⟩
  case round =>
    clear HX HRI HJ1
    obtain ⟨pre, ix, ys, a, rfl, HS, HO, HG, HJJ⟩ := hrel
    cases gk with
    | zero => exact absurd HS.out.1 (by simp [spotsF])
    | succ kq =>
      obtain ⟨⟨b, ix', a'⟩, hst⟩ : ∃ r, r = spotIn ds ss ds.length ix a := ⟨_, rfl⟩
      obtain ⟨zs, hzs⟩ : ∃ zs, ys = a :: zs := by
        have h := HS.out.1
        simp only [spotsF] at h
        split at h
        · obtain ⟨t, _, h2⟩ := Option.bind_eq_some_iff.mp h
          exact ⟨t, (Option.some.inj h2).symm⟩
        · exact ⟨[], (Option.some.inj h).symm⟩
      have hpx : pre ++ [a] <+: xs := ⟨zs, by have := HS.out.2.1; rw [hzs] at this; simpa using this⟩
      obtain ⟨fn, tmps, assign, body, hy, hR⟩ := HY.out pre a wr HJJ.out.1 hpx HJJ.out.2
      have HST := Aside0.mk hst
      have HPX := Aside0.mk hpx
      have HZ := Aside0.mk hzs
      clear hst hpx hzs
      gi_wp2
      refine hR.mono ?_
      rintro e W3 (⟨rfl, hJ3, hk3⟩ | ⟨rfl, hJx3⟩)
      · have HJ3 := Aside0.mk (And.intro hJ3 (Nat.lt_of_lt_of_le HJJ.out.2 hk3.1))
        have HO3 := Aside0.mk (Kd.R_step HO.out (fun g hg _ => hk3.2 g (.inl hg)))
        have HG3 := Aside0.mk (show (∀ g, prot g → W3.heap[g]? = W1.heap[g]?) from fun g hg => (hk3.2 g (.inr hg)).trans (HG.out g hg))
        have k1 : W3.cell? ⟨q1, 0, none⟩ = some (.slice A0 ds.length c0) := (blk_cell ((HG3.out q1 (HP.out.1 q1 (.inr (.inl rfl)))).trans KK.out.1) 0).trans rfl
        clear hJ3 hk3 hR hy
        have HB : Aside0 ((b = true → spotsF ds ss kq ix' a' = some zs ∧ ix'.length = ds.length) ∧ (b = false → zs = [])) := ⟨by
          have h := HS.out.1
          have hl := spotIn_len ds ss ds.length ix a
          rw [HZ.out] at h
          simp only [spotsF] at h
          rw [← HST.out] at h hl
          cases b with
          | true =>
            rw [if_pos rfl] at h
            obtain ⟨t, h1, h2⟩ := Option.bind_eq_some_iff.mp h
            have h3 : zs = t := by simpa using (Option.some.inj h2).symm
            exact ⟨fun _ => ⟨by rw [h3]; exact h1, by rw [← HS.out.2.2]; exact hl⟩, fun z => (by cases z)⟩
          | false =>
            rw [if_neg (by simp)] at h
            exact ⟨fun z => (by cases z), fun _ => by simpa using (Option.some.inj h).symm⟩⟩
        have hwn : wrap64 ((ds.length : Int) - 1) = (ds.length : Int) - 1 := by have := HL.out; unfold wrap64; omega
        gi_wp2
        clear k1
        have HWN := Aside0.mk hwn
        clear hwn
        gi_loopg [6, 7] ds.length (fun kj va vi wj => ∃ (jx : List Int) (c i : Int), va = .int .i64 c ∧ vi = .int .i64 i ∧ Aside0 (0 ≤ i + 1 ∧ (i + 1).toNat = kj ∧ kj ≤ ds.length) ∧ Aside0 (spotIn ds ss (i + 1).toNat jx c = (b, ix', a') ∧ jx.length = ds.length) ∧ Aside0 (Kd.R (Kd.int .i64) 3 wj W.heap.size (fun g => g = W.heap.size) (.slice (some ⟨W.heap.size, 0, none⟩) ds.length ds.length) jx) ∧ Aside0 (∀ g, prot g → wj.heap[g]? = W1.heap[g]?) ∧ Aside0 (J (pre ++ [a]) wj ∧ W.heap.size < wj.heap.size))
        case atStart =>
          exact ⟨ix, a, (ds.length : Int) - 1, rfl, (by rw [HWN.out]), ⟨by omega, by omega, by omega⟩, ⟨by rw [show ((ds.length : Int) - 1 + 1).toNat = ds.length by omega]; exact HST.out.symm, HS.out.2.2⟩, HO3, HG3, HJ3⟩
        case round =>
          clear HO3 HG3 HJ3
          obtain ⟨jx, c, i, rfl, rfl, HI, HIN, HOJ, HGJ, HJJ'⟩ := hrel
          by_cases hi : 0 ≤ i
          · have i1 : i < (ds.length : Int) := by have := HI.out; omega
            have hib : decide (0 ≤ i) = true := decide_eq_true hi
            have hib2 : decide (i < 0) = false := decide_eq_false (by omega)
            have hsp := HIN.out.1
            rw [show (i + 1).toNat = i.toNat + 1 by omega] at hsp
            simp only [spotIn] at hsp
            rw [Int.toNat_of_nonneg hi] at hsp
            obtain ⟨ad0, e0, y0T⟩ := Kd.at_int HR0.out i hi i1
            cases e0
            obtain ⟨ad1, e1, y1T⟩ := Kd.at_int HR1.out i hi (by have := HL.out; omega)
            cases e1
            have HYT := Aside0.mk (And.intro y0T y1T)
            clear y0T y1T
            obtain ⟨x0', f0⟩ := Kd.R_celln 0 HOJ.out i hi i1
            have x0 : wr.cell? ⟨W.heap.size, i.toNat, none⟩ = some (.int .i64 (rd jx i)) := x0'
            clear x0'
            have i2 : i < (ss.length : Int) := by have := HL.out; omega
            have hw1 : wrap64 (i - 1) = i - 1 := by have := HL.out; unfold wrap64; omega
            have HI' := Aside0.mk (And.intro hi (And.intro i1 hw1))
            -- what is known behind a store into the row of the iterator
            have put5 : Aside0 (∀ (wq : World) (jq : List Int) (v : Int), Kd.R (Kd.int .i64) 3 wq W.heap.size (fun g => g = W.heap.size) (.slice (some ⟨W.heap.size, 0, none⟩) ds.length ds.length) jq → (∀ g, prot g → wq.heap[g]? = W1.heap[g]?) → J (pre ++ [a]) wq ∧ W.heap.size < wq.heap.size →
                ∀ W5, wq.setCell ⟨W.heap.size, i.toNat, none⟩ (.int .i64 v) = W5 → Kd.R (Kd.int .i64) 3 W5 W.heap.size (fun g => g = W.heap.size) (.slice (some ⟨W.heap.size, 0, none⟩) ds.length ds.length) (jq.set i.toNat v) ∧ (∀ g, prot g → W5.heap[g]? = W1.heap[g]?) ∧ J (pre ++ [a]) W5 ∧ W.heap.size < W5.heap.size) := ⟨by
              rintro wq jq v h1 h2 h3 W5 rfl
              exact ⟨Kd.R_putn h1 i v, fun g hg => (Below.heap_setCell wq ⟨W.heap.size, i.toNat, none⟩ _ g (Nat.ne_of_lt (HP.out.2 g hg))).trans (h2 g hg), HJ.out _ _ _ h3.1 (keepTwo_set _ _ _ _), by simp; exact h3.2⟩⟩
            have drew5 : Aside0 (∀ (wq : World) (m : Nat), (J (pre ++ [a]) wq ∧ W.heap.size < wq.heap.size) → J (pre ++ [a]) (wq.drewN m) ∧ W.heap.size < (wq.drewN m).heap.size) := ⟨fun wq m h => ⟨HJ.out _ _ _ h.1 (keepTwo_drewN _ _ _ _), h.2⟩⟩
            have lift : Aside0 (∀ (wq : World) (ad : Addr) (v : Value), (∀ g, prot g → wq.heap[g]? = W1.heap[g]?) → wT.cell? ad = some v → wq.cell? ad = some v) := ⟨fun wq ad v hq h => by
              have hb := World.block_lt_of_cell? wT _ h
              exact (World.cell?_of_block ((hq ad.block (HP.out.1 ad.block (.inl hb))).trans ((KW.out ad.block (HP.out.1 ad.block (.inl hb))).trans (HW.out ad.block hb)))).trans h⟩
            by_cases hc : wrap64 (rd jx i + 1) < rd ds i
            · rw [if_pos hc] at hsp
              simp only [Prod.mk.injEq] at hsp
              have HSP := Aside0.mk hsp
              clear hsp
              have hcb : decide (wrap64 (rd jx i + 1) < rd ds i) = true := decide_eq_true hc
              gi_upto_region 7 with fail
              generalize hW5 : World.setCell _ _ _ = W5
              obtain ⟨HO5, HG5, HJ5⟩ := put5.out wr jx _ HOJ.out HGJ.out HJJ'.out W5 hW5
              have k1 : W5.cell? ⟨q1, 0, none⟩ = some (.slice (some ad0) ds.length c0) := (blk_cell ((HG5 q1 (HP.out.1 q1 (.inr (.inl rfl)))).trans KK.out.1) 0).trans rfl
              have k3 : W5.cell? ⟨q3, 0, none⟩ = some (.slice (some ad1) ss.length c1) := (blk_cell ((HG5 q3 (HP.out.1 q3 (.inr (.inr (.inr rfl))))).trans KK.out.2.2) 0).trans rfl
              have y0 := lift.out W5 _ _ HG5 HYT.out.1
              have y1 := lift.out W5 _ _ HG5 HYT.out.2
              obtain ⟨x5, f5⟩ := Kd.R_celln 0 HO5 i hi i1
              have e5 : rdOf 0 (jx.set i.toNat (wrap64 (rd jx i + 1))) i = wrap64 (rd jx i + 1) := by
                unfold rdOf
                rw [List.getD_eq_getElem?_getD, List.getElem?_set_self (by have := HIN.out.2; omega), Option.getD_some]
              rw [e5] at x5
              have HO5' := Aside0.mk HO5
              have HG5' := Aside0.mk HG5
              have HJ5' := Aside0.mk HJ5
              clear hW5 HO5 HG5 HJ5 x0 f0 e5
              gi_wp2
              gi_quiet (fail)
              gi_wp2
              gi_roundg kq
              case measure => omega
              case rel =>
                obtain ⟨e1, e2, e3⟩ := HSP.out
                have hb := HB.out.1 e1.symm
                refine ⟨pre ++ [a], ix', zs, a', (by rw [e3]), ⟨hb.1, ?_, hb.2⟩, ⟨?_⟩, ⟨HG5'.out⟩, ⟨?_⟩⟩
                · have := HS.out.2.1
                  rw [HZ.out] at this
                  simpa using this
                · rw [← e2]
                  exact Kd.R_drewN HO5'.out _
                · exact drew5.out _ _ HJ5'.out
            · rw [if_neg hc] at hsp
              have HSP := Aside0.mk hsp
              clear hsp
              have hcb : decide (wrap64 (rd jx i + 1) < rd ds i) = false := decide_eq_false hc
              gi_upto_region 7 with fail
              generalize hW5 : World.setCell _ _ _ = W5
              obtain ⟨HO5, HG5, HJ5⟩ := put5.out wr jx _ HOJ.out HGJ.out HJJ'.out W5 hW5
              have k1 : W5.cell? ⟨q1, 0, none⟩ = some (.slice (some ad0) ds.length c0) := (blk_cell ((HG5 q1 (HP.out.1 q1 (.inr (.inl rfl)))).trans KK.out.1) 0).trans rfl
              have k3 : W5.cell? ⟨q3, 0, none⟩ = some (.slice (some ad1) ss.length c1) := (blk_cell ((HG5 q3 (HP.out.1 q3 (.inr (.inr (.inr rfl))))).trans KK.out.2.2) 0).trans rfl
              have y0 := lift.out W5 _ _ HG5 HYT.out.1
              have y1 := lift.out W5 _ _ HG5 HYT.out.2
              obtain ⟨x5, f5⟩ := Kd.R_celln 0 HO5 i hi i1
              have e5 : rdOf 0 (jx.set i.toNat (wrap64 (rd jx i + 1))) i = wrap64 (rd jx i + 1) := by
                unfold rdOf
                rw [List.getD_eq_getElem?_getD, List.getElem?_set_self (by have := HIN.out.2; omega), Option.getD_some]
              rw [e5] at x5
              have HO5' := Aside0.mk HO5
              have HG5' := Aside0.mk HG5
              have HJ5' := Aside0.mk HJ5
              clear hW5 HO5 HG5 HJ5 x0 f0 e5
              gi_wp2
              gi_quiet (fail)
              gi_wp2
              gi_quiet (fail)
              gi_wp2
              have hkj : (i - 1 + 1).toNat = i.toNat := by omega
              gi_roundg i.toNat
              case measure => have := HI.out; omega
              case rel =>
                generalize hW6 : World.setCell _ _ _ = W6
                obtain ⟨HO6, HG6, HJ6⟩ := put5.out (W5.drewN _) _ _ (Kd.R_drewN HO5'.out _) HG5'.out (drew5.out _ _ HJ5'.out) W6 hW6
                rw [List.set_set] at HO6
                refine ⟨jx.set i.toNat 0, _, i - 1, rfl, (by rw [HI'.out.2.2]), ⟨by omega, hkj, by have := HI.out; omega⟩, ⟨by rw [hkj]; exact HSP.out, by rw [List.length_set]; exact HIN.out.2⟩, ⟨HO6⟩, ⟨HG6⟩, ⟨HJ6⟩⟩
          · have hi1 : i = -1 := by have := HI.out; omega
            subst hi1
            have hsp := HIN.out.1
            simp only [show ((-1 : Int) + 1).toNat = 0 from rfl, spotIn, Prod.mk.injEq] at hsp
            obtain ⟨rfl, rfl, rfl⟩ := hsp
            have HZ0 := HB.out.2 rfl
            gi_wp2
            refine bodyPost_ret (results_none rfl _ _ _) rfl ?_
            refine ⟨⟨_, rfl⟩, .inl ?_⟩
            have h := HS.out.2.1
            rw [HZ.out, HZ0] at h
            rw [← h]
            exact HJJ'.out.1
      · clear hR hy
        gi_wp2
        refine bodyPost_ret (results_none rfl _ _ _) rfl ?_
        exact ⟨⟨_, rfl⟩, .inr ⟨pre ++ [a], HPX.out, hJx3⟩⟩
section
variable {F : Fence} {n : Nat} {P : Program} {ops : Array Oper} {rest : List Oper} {o : Oper} {a : Act} {Q : Exit → Act → World → Prop} {W : World}
/-- append(v, p) in a fence, over a row of one's own; the goal's world is that in which the literal of one lies. -/
theorem R_append_in (d : Kd Int) (hd : d = Kd.int .i64) (base : Nat) (hgd : o.guard = none) (s x : Operand) (t e : TypeId)
    (ho : o.op = .call { callee := .builtin .append, args := #[s, x], argTypes := #[t, t] })
    (ht : P.underlying t = some (.slice e)) (hinfo : (P.info? e).map (fun i => (i.zero, i.size, i.bytes)) = some (some (.int .i64 0), 1, 8))
    (v : Value) (xs : List Int) (p : Int) (ok : Nat → Prop) (hs : a.eval s = v) (hx : a.eval x = .slice (some ⟨W.heap.size, 0, none⟩) 1 1) (hfresh : ∀ k, W.heap.size ≤ k → ok k)
    (HO : (Kd.int .i64).R e W base ok v xs) (hbase : base ≤ W.heap.size) (hl : (xs.length + 1) * 8 ≤ 140737488355328)
    (h : ∀ v1 w1, (Kd.int .i64).R e w1 base ok v1 (xs ++ [p]) → W.grownBy w1 v.ownBlock → wpListIn F n P ops Q rest (a.put o.dst v1) w1) :
    wpListIn F n P ops Q (o :: rest) a (W.alloc (.cells #[.int .i64 p] e)) := by
  obtain ⟨h0, inner, hown, hr⟩ := HO
  obtain ⟨i0, hi, hz0, hz1, hz2⟩ := info_parts hinfo
  refine wpListIn_plain hgd fun K hK' => ?_
  obtain ⟨v1, w1, hrun, r1, r2, _, r4⟩ := run_append_own_at (P := P) (w := W.alloc (.cells #[.int .i64 p] e)) base t o.type e i0 (.int .i64 0) 1 8 ht hi hz0 hz1 hz2 rfl (by decide) v xs.length inner (hown.alloc _) ⟨W.heap.size, 0, none⟩ 1 1 [.int .i64 p] rfl
    (by simpa using World.news_of_block (cs := #[Value.int .i64 p]) (t := e) (fr := (0, 0)) (heap_alloc_new W (.cells #[.int .i64 p] e))) (by simp [Value.oneCell']) (by simp only [maxLen]; omega) hl (by simp; omega)
  have hg2 : W.grownBy w1 v.ownBlock := World.grownBy.trans (World.grownBy_alloc W _ _) r2
  have hat : v1.ownBlock = v.ownBlock ∨ ∃ b, v1.ownBlock = some b ∧ W.heap.size ≤ b := by
    rcases r4 with h | h
    · exact .inl h
    · exact .inr ⟨_, h, by simp⟩
  have hR := Kd.R_appended (d := Kd.int .i64) (okp := fun _ => False) (p := p) (cs := [.int .i64 p]) h0 hr (show [Value.int .i64 p] = [Value.int .i64 p] from rfl) (fun _ hk => hk.elim) hfresh r1 hg2 hat
  unfold Oper.wpIn
  refine ⟨?_, ?_⟩
  · simp [Oper.about, ho, resolve, Target.leads, Sem.run_pure]
  · rw [Oper.semAt_plain F _ _ (by rw [ho]; intro c hc'; cases hc')]
    simp [execOp, ho, resolve, invoke, builtin, hs, hx, hrun, Result.andThen]
    exact hK' _ _ (h v1 w1 hR hg2)
end
set_option maxHeartbeats 2000000 in
set_option maxRecDepth 100000 in
/-- spots boxes what it was told and hands the iterator back. -/
theorem spots_in (n : Nat) (u v : Value) (off : Int) (w : World) (A0 A1 : Option Addr) (m0 c0 m1 c1 : Nat) :
    CallsIn Fence.wide n Try.prog 56 #[.slice A0 m0 c0, .slice A1 m1 c1, .int .i64 off] w fun e w' => e = .returned (.func (.func 90) #[] #[.pointer (some ⟨w.heap.size, 0, none⟩), .pointer (some ⟨w.heap.size + 2, 0, none⟩), .pointer (some ⟨w.heap.size + 1, 0, none⟩)]) ∧
      w' = ((w.alloc (.cells #[.slice A0 m0 c0] 41)).alloc (.cells #[.slice A1 m1 c1] 41)).alloc (.cells #[.int .i64 off] 3) := by
  have hmf : ∀ (fn : Fn) (first cap : Array Value) (w : World), (Instr.makeFunc fn first cap).run Try.prog w = .ok (.func fn first cap) w := fun _ _ _ _ => rfl
  refine callsIn_of_wp Try.func56 rfl trivial ?_ rfl
  simp only [Try.ntmps56, List.size_toArray, List.length_cons, List.length_nil, Nat.reduceAdd, Nat.reduceSub, Array.replicate_succ, Array.replicate_zero, List.push_toArray, List.append_toArray, List.nil_append, List.cons_append]
  gi_wp2
  go_ret
  exact ⟨rfl, rfl⟩
theorem blk_alloc3 (w : World) (a b c : Obj) : (((w.alloc a).alloc b).alloc c).heap[w.heap.size]? = some a ∧ (((w.alloc a).alloc b).alloc c).heap[w.heap.size + 1]? = some b ∧ (((w.alloc a).alloc b).alloc c).heap[w.heap.size + 2]? = some c := by
  refine ⟨blk_alloc (blk_alloc (heap_alloc_new w a) _) _, ?_, ?_⟩
  · have := blk_alloc (heap_alloc_new (w.alloc a) b) c
    rwa [World.size_alloc] at this
  · have := heap_alloc_new ((w.alloc a).alloc b) c
    rwa [World.size_alloc, World.size_alloc] at this
/-- The iterator that spots hands back has its contract. -/
theorem spots_seq (n : Nat) (hn : 1 ≤ n) (A0 A1 : Option Addr) (c0 c1 k : Nat) (ds ss xs : List Int) (off : Int) (wT w : World)
    (hr0 : Kd.C (Kd.int .i64) wT A0 ds.length ds) (hr1 : Kd.C (Kd.int .i64) wT A1 ss.length ss) (hl : ds.length ≤ ss.length) (hl2 : ds.length ≤ 1000) (hw : wT.heap.size ≤ w.heap.size) (hW : ∀ g, g < wT.heap.size → w.heap[g]? = wT.heap[g]?)
    (hxs : spotsF ds ss k (List.replicate ds.length 0) off = some xs) :
    SeqRow Fence.wide n Try.prog 90 #[.pointer (some ⟨w.heap.size, 0, none⟩), .pointer (some ⟨w.heap.size + 2, 0, none⟩), .pointer (some ⟨w.heap.size + 1, 0, none⟩)] (fun x : Int => #[.int .i64 x]) (fun g => g < wT.heap.size ∨ g = w.heap.size ∨ g = w.heap.size + 1 ∨ g = w.heap.size + 2) xs
      (((w.alloc (.cells #[.slice A0 ds.length c0] 41)).alloc (.cells #[.slice A1 ss.length c1] 41)).alloc (.cells #[.int .i64 off] 3)) := by
  intro l J Jx W hs hb hJ hJx hY h0
  obtain ⟨b0, b1, b2⟩ := blk_alloc3 w (.cells #[.slice A0 ds.length c0] 41) (.cells #[.slice A1 ss.length c1] 41) (.cells #[.int .i64 off] 3)
  simp only [World.size_alloc] at hs hb
  refine spots1_in n hn l w.heap.size (w.heap.size + 2) (w.heap.size + 1) A0 A1 c0 c1 k ds ss xs off (fun g => g < wT.heap.size ∨ g = w.heap.size ∨ g = w.heap.size + 1 ∨ g = w.heap.size + 2) wT hr0 hr1 hl hl2 ?_ hxs J Jx W ?_ ?_ ?_ ?_ ?_ hJ hJx hY h0
  · intro g hg
    omega
  · intro g hg
    rw [hb g (by omega), ← hW g hg]
    exact (Below.heap_alloc _ _ g (by simp; omega)).trans ((Below.heap_alloc _ _ g (by simp; omega)).trans (Below.heap_alloc _ _ g (by omega)))
  · intro g hg
    omega
  · exact (hb _ (by omega)).trans b0
  · exact (hb _ (by omega)).trans b2
  · exact (hb _ (by omega)).trans b1
theorem results_cell1 {fn : Func} {p : Tmp} {ty : TypeId} (h : fn.results = #[.cell p ty]) (tmps : Array Value) (P : Program) (w : World) (ad : Addr) (v : Value)
    (hp : tmps.getD p undef = .pointer (some ad)) (hl : (loadVar ty ad).run P w = .ok v w) : (results fn tmps).run P w = .ok v w := by
  have hp' : tmps[p]?.getD undef = .pointer (some ad) := by simpa using hp
  simp [results, h, hp', asAddr, hl]
theorem load_bool (w : World) (ad : Addr) (b : Bool) (h : w.cell? ad = some (.bool b)) : (loadVar 4 ad).run Try.prog w = .ok (.bool b) w := by
  have hu := Try.underlying4
  first | (go_simp; done) | (simp [loadVar, isAgg, Sem.run_bind, run_underlying hu w, h]; done) | (simp [go_sem, loadVar, isAgg, run_underlying hu w, h]; trace_state; done)
theorem blk4 {W : World} {g : Nat} {a b c d : Value} {t : TypeId} (h : W.heap[g]? = some (.cells #[a, b, c, d] t (0, 0))) :
    W.cell? ⟨g, 0, none⟩ = some a ∧ W.cell? ⟨g, 1, none⟩ = some b ∧ W.cell? ⟨g, 2, none⟩ = some c ∧ W.cell? ⟨g, 3, none⟩ = some d :=
  ⟨(blk_cell h 0).trans (show (#[a, b, c, d] : Array Value)[0]? = some a from rfl), (blk_cell h 1).trans (show (#[a, b, c, d] : Array Value)[1]? = some b from rfl), (blk_cell h 2).trans (show (#[a, b, c, d] : Array Value)[2]? = some c from rfl), (blk_cell h 3).trans (show (#[a, b, c, d] : Array Value)[3]? = some d from rfl)⟩
set_option maxHeartbeats 4000000 in
set_option maxRecDepth 100000 in
theorem meet_in (n : Nat) (hn : 3 ≤ n) (A0 A1 B0 B1 : Option Addr) (c0 c1 c2 c3 k : Nat) (ds ss xs es ts ys : List Int) (off off2 base : Int) (w : World)
    (hr0 : Kd.C (Kd.int .i64) w A0 ds.length ds) (hc0 : ds.length ≤ c0) (hr1 : Kd.C (Kd.int .i64) w A1 ss.length ss) (hc1 : ss.length ≤ c1) (hl : ds.length ≤ ss.length) (hl2 : ds.length ≤ 1000) (hb0 : 0 ≤ base) (hb1 : base ≤ 1000000)
    (hr2 : Kd.C (Kd.int .i64) w B0 es.length es) (hc2 : es.length ≤ c2) (hr3 : Kd.C (Kd.int .i64) w B1 ts.length ts) (hc3 : ts.length ≤ c3) (hl3 : es.length ≤ ts.length) (hl4 : es.length ≤ 1000)
    (hvo : impl_ViewOk.f k ds ss off base = some true) (hvo2 : impl_ViewOk.f k es ts off2 base = some true)
    (hxs : spotsF ds ss k (List.replicate ds.length 0) off = some xs) (hp : ∀ p ∈ xs, 0 ≤ p ∧ p < base)
    (hys : spotsF es ts k (List.replicate es.length 0) off2 = some ys) (hq : ∀ p ∈ ys, 0 ≤ p ∧ p < base) :
    CallsIn Fence.wide n Try.prog 30 #[.agg #[.slice A0 ds.length c0, .slice A1 ss.length c1, .int .i64 off, .int .i64 base], .agg #[.slice B0 es.length c2, .slice B1 ts.length c3, .int .i64 off2, .int .i64 base]] w fun e w' => e = .returned (.bool (ys.any fun p => rdOf false (mkF (List.replicate base.toNat false) xs) p)) ∧ Below w.heap.size w w' := by
  have HR0 := Aside0.mk (And.intro hr0 hc0)
  have HR1 := Aside0.mk (And.intro hr1 hc1)
  have HR2 := Aside0.mk (And.intro hr2 hc2)
  have HR3 := Aside0.mk (And.intro hr3 hc3)
  have HL := Aside0.mk (And.intro hl hl2)
  have HL3 := Aside0.mk (And.intro hl3 hl4)
  have HB0 := Aside0.mk (And.intro hb0 hb1)
  have HX := Aside0.mk hxs
  have HY := Aside0.mk hys
  have HPB := Aside0.mk hp
  have HQB := Aside0.mk hq
  have HVO := Aside0.mk hvo
  have HVO2 := Aside0.mk hvo2
  clear hr0 hr1 hr2 hr3 hl hl2 hl3 hl4 hxs hp hys hq hc0 hc1 hc2 hc3 hvo hvo2 hb0 hb1
  refine callsIn_of_wp_marks Try.func30 rfl trivial ?_ rfl
  simp only [Try.ntmps30, List.size_toArray, List.length_cons, List.length_nil, Nat.reduceAdd, Nat.reduceSub, Array.replicate_succ, Array.replicate_zero, List.push_toArray, List.append_toArray, List.nil_append, List.cons_append]
  have h1 : 1 ≤ n := by omega
  have hmk := print_make_int (P := Try.prog) 79 4 (.bool false) 1 Try.underlying79 info4 rfl (by decide) base HB0.out.1 (by have := HB0.out; omega)
  have HMK := Aside0.mk hmk
  clear hmk
  gi_wp2_with (first | (refine ⟨trivial, ?_⟩; gi_at_call 55; refine (callsIn_wide.2 (impl_ViewOk.calls k _ _ es _ _ ts off2 base true w1 (Kd.C_below HR2.out.1 BW1.out) HR2.out.2 (Kd.C_below HR3.out.1 BW1.out) HR3.out.2 HVO2.out)).mono ?_; rintro e w' ⟨rfl, hbw⟩; have hsw1 := SW1.out; have KA := Aside0.mk ((hbw.block w.heap.size (by omega)).trans KA1.out); have KB := Aside0.mk ((hbw.block (w.heap.size + 1) (by omega)).trans KA2.out); have KC := Aside0.mk ((hbw.block (w.heap.size + 2) (by omega)).trans KA3.out); have BW := Aside0.mk (show Below w.heap.size w w' from below_step BW1.out hbw); have SW := Aside0.mk (show w.heap.size + 3 ≤ w'.heap.size from by have := hbw.size; omega); have hmk1 := HMK.out w'; have hown := own_made_of' (enc := Value.bool) (d := false) w' w'.heap.size 4 base.toNat (Nat.le_refl _) (by have := HB0.out; omega); obtain ⟨W1, hW1⟩ : ∃ W1, W1 = w'.alloc (.cells (madeCells #[.bool false] base.toNat) 4) := ⟨_, rfl⟩; rw [← hW1] at hmk1 hown; obtain ⟨d0, d1, d2, d3⟩ := blk4 KA.out; obtain ⟨j0, j1, j2, j3⟩ := blk4 KB.out; have HS1 := Aside0.mk (show W1.heap.size = w'.heap.size + 1 from by rw [hW1]; simp); have BF1 := Aside0.mk (show ∀ (g : Nat) (o : Obj), w'.heap[g]? = some o → W1.heap[g]? = some o from fun g o h => by rw [hW1]; exact blk_alloc h _); obtain ⟨e0, e1, e2, e3⟩ := blk4 (blk_alloc (BF1.out _ _ KA.out) (.cells #[.slice (some ⟨w'.heap.size, 0, none⟩) base.toNat base.toNat] 79)); have HRW := Aside0.mk hown; have HAL := Aside0.mk hW1; clear hbw hown hW1 hsw1 g0 g1 g2 g3) | (refine ⟨trivial, ?_⟩; gi_at_call 55; refine (callsIn_wide.2 (impl_ViewOk.calls k _ _ ds _ _ ss off base true _ (Kd.C_alloc (Kd.C_alloc (Kd.C_alloc HR0.out.1 _) _) _) HR0.out.2 (Kd.C_alloc (Kd.C_alloc (Kd.C_alloc HR1.out.1 _) _) _) HR1.out.2 HVO.out)).mono ?_; rintro e w1 ⟨rfl, hbw⟩; have KA1 := Aside0.mk (show w1.heap[w.heap.size]? = some (.cells #[.slice A0 ds.length c0, .slice A1 ss.length c1, .int .i64 off, .int .i64 base] 46 (0, 0)) from (hbw.block w.heap.size (by simp <;> omega)).trans (blk_alloc3 w _ _ _).1); have KA2 := Aside0.mk (show w1.heap[w.heap.size + 1]? = some (.cells #[.slice B0 es.length c2, .slice B1 ts.length c3, .int .i64 off2, .int .i64 base] 46 (0, 0)) from (hbw.block (w.heap.size + 1) (by simp <;> omega)).trans (blk_alloc3 w _ _ _).2.1); have KA3 := Aside0.mk (show w1.heap[w.heap.size + 2]? = some (.cells #[.bool false] 4 (0, 0)) from (hbw.block (w.heap.size + 2) (by simp)).trans (blk_alloc3 w _ _ _).2.2); have BW1 := Aside0.mk (show Below w.heap.size w w1 from below_step ((((Below.refl _ w).alloc (Nat.le_refl _) _).alloc (by simp) _).alloc (by simp <;> omega) _) hbw); have SW1 := Aside0.mk (show w.heap.size + 3 ≤ w1.heap.size from by have := hbw.size; simp at this; omega); obtain ⟨g0, g1, g2, g3⟩ := blk4 KA2.out; clear hbw) | (refine ⟨trivial, ?_⟩; gi_at_call 56; refine (spots_in (n - 1) (.int .i64 0) (.int .i64 0) off _ A0 A1 ds.length c0 ss.length c1).mono ?_; rintro e w' ⟨rfl, rfl⟩))
  clear hmk1 d0 d1 d2 d3 e0 e1 e2 e3 j0 j1 j2 j3
  have hs1 := HS1.out
  have hsw := SW.out
  have B1_ : Below w.heap.size w (W1.alloc (.cells #[.slice (some ⟨w'.heap.size, 0, none⟩) base.toNat base.toNat] 79)) := by
    refine Below.alloc ?_ (by omega) _
    rw [HAL.out]
    exact BW.out.alloc (by omega) _
  have SV : (W1.alloc (.cells #[.slice (some ⟨w'.heap.size, 0, none⟩) base.toNat base.toNat] 79)).heap.size = w'.heap.size + 2 := by simp; omega
  have KV := heap_alloc_new W1 (.cells #[.slice (some ⟨w'.heap.size, 0, none⟩) base.toNat base.toNat] 79)
  have KBV := blk_alloc (BF1.out _ _ KC.out) (.cells #[.slice (some ⟨w'.heap.size, 0, none⟩) base.toNat base.toNat] 79)
  have KWV := blk_alloc (BF1.out _ _ KB.out) (.cells #[.slice (some ⟨w'.heap.size, 0, none⟩) base.toNat base.toNat] 79)
  have HRV : Kd.R Kd.bool 4 (W1.alloc (.cells #[.slice (some ⟨w'.heap.size, 0, none⟩) base.toNat base.toNat] 79)) w'.heap.size (fun g => g = w'.heap.size) (.slice (some ⟨w'.heap.size, 0, none⟩) base.toNat base.toNat) (List.replicate base.toNat false) :=
    Kd.R_alloc (Kd.R_of_own (by exact HRW.out) (fun g hg => by simpa [Value.ownBlock] using hg.symm)) _
  rw [hs1] at KV ⊢
  obtain ⟨V, hV⟩ : ∃ V, V = W1.alloc (.cells #[.slice (some ⟨w'.heap.size, 0, none⟩) base.toNat base.toNat] 79) := ⟨_, rfl⟩
  rw [← hV] at B1_ SV KV KBV KWV HRV ⊢
  have SQ := spots_seq (n - 1) (by omega) A0 A1 c0 c1 k ds ss xs off w V HR0.out.1 HR1.out.1 HL.out.1 HL.out.2 (by omega) (fun g hg => B1_.block g hg) HX.out
  rw [SV] at SQ
  have B2 : Below w.heap.size w (((V.alloc (.cells #[.slice A0 ds.length c0] 41)).alloc (.cells #[.slice A1 ss.length c1] 41)).alloc (.cells #[.int .i64 off] 3)) := ((B1_.alloc (by omega) _).alloc (by simp; omega) _).alloc (by simp; omega) _
  have S2 : (((V.alloc (.cells #[.slice A0 ds.length c0] 41)).alloc (.cells #[.slice A1 ss.length c1] 41)).alloc (.cells #[.int .i64 off] 3)).heap.size = w'.heap.size + 5 := by simp; omega
  have K2 := blk_alloc (blk_alloc (blk_alloc KBV (.cells #[.slice A0 ds.length c0] 41)) (.cells #[.slice A1 ss.length c1] 41)) (.cells #[.int .i64 off] 3)
  have K4 := blk_alloc (blk_alloc (blk_alloc KWV (.cells #[.slice A0 ds.length c0] 41)) (.cells #[.slice A1 ss.length c1] 41)) (.cells #[.int .i64 off] 3)
  have K3 := blk_alloc (blk_alloc (blk_alloc KV (.cells #[.slice A0 ds.length c0] 41)) (.cells #[.slice A1 ss.length c1] 41)) (.cells #[.int .i64 off] 3)
  have HRX := Kd.R_alloc (Kd.R_alloc (Kd.R_alloc HRV (.cells #[.slice A0 ds.length c0] 41)) (.cells #[.slice A1 ss.length c1] 41)) (.cells #[.int .i64 off] 3)
  obtain ⟨w2, hw2⟩ : ∃ w2, w2 = ((V.alloc (.cells #[.slice A0 ds.length c0] 41)).alloc (.cells #[.slice A1 ss.length c1] 41)).alloc (.cells #[.int .i64 off] 3) := ⟨_, rfl⟩
  rw [← hw2] at SQ B2 S2 K2 K3 K4 HRX ⊢
  clear hw2 hV HRV KBV KWV KV B1_ HAL HRW BF1 KA KB KC KA1 KA2 KA3 BW1 SW1 HS1 hs1 HMK
  refine rangeFunc_row (w := w2) rfl h1 (gf := 90) (lb := #[.pointer (some ⟨w'.heap.size + 2, 0, none⟩), .pointer (some ⟨w'.heap.size + 2 + 2, 0, none⟩), .pointer (some ⟨w'.heap.size + 2 + 1, 0, none⟩)]) rfl trivial (enters_of Try.func90 (by kernel_rfl) rfl)
    SQ (by intro g hg; omega) (fun _ => rfl)
    (fun pre W => W.heap[w.heap.size + 2]? = some (.cells #[.bool false] 4 (0, 0)) ∧ W.heap[w.heap.size + 1]? = some (.cells #[.slice B0 es.length c2, .slice B1 ts.length c3, .int .i64 off2, .int .i64 base] 46 (0, 0)) ∧ W.heap[w'.heap.size + 1]? = some (.cells #[.slice (some ⟨w'.heap.size, 0, none⟩) base.toNat base.toNat] 79 (0, 0)) ∧ (∃ m rest, Kd.R Kd.bool 4 W w'.heap.size (fun g => g = w'.heap.size) (.slice (some ⟨w'.heap.size, 0, none⟩) base.toNat base.toNat) m ∧ pre ++ rest = xs ∧ mkF m rest = mkF (List.replicate base.toNat false) xs) ∧ Below w.heap.size w W)
    (fun _ _ _ => False) ?hI (fun _ _ _ _ h _ => h.elim) ?h0
    (fun x => { tmps := #[.agg #[.slice A0 ds.length c0, .slice A1 ss.length c1, .int .i64 off, .int .i64 base], .agg #[.slice B0 es.length c2, .slice B1 ts.length c3, .int .i64 off2, .int .i64 base], .pointer (some ⟨w.heap.size, 0, none⟩), .pointer (some ⟨w.heap.size + 1, 0, none⟩), .pointer (some ⟨w.heap.size + 2, 0, none⟩), .pointer (some ⟨w'.heap.size + 1, 0, none⟩), .int .i64 x, undef, .agg #[.slice A0 ds.length c0, .slice A1 ss.length c1, .int .i64 off, .int .i64 base], .bool true, .bool false, .bool false, .agg #[.slice B0 es.length c2, .slice B1 ts.length c3, .int .i64 off2, .int .i64 base], .bool true, .bool false, .bool false, .bool false, .pointer (some ⟨w.heap.size, 3, none⟩), .int .i64 base, .pointer (some ⟨w.heap.size + 1, 3, none⟩), .int .i64 base, .bool false, .bool false, .pointer (some ⟨w.heap.size, 3, none⟩), .int .i64 base, .slice (some ⟨w'.heap.size, 0, none⟩) base.toNat base.toNat, .pointer (some ⟨w.heap.size, 0, none⟩), .slice A0 ds.length c0, .pointer (some ⟨w.heap.size, 1, none⟩), .slice A1 ss.length c1, .pointer (some ⟨w.heap.size, 2, none⟩), .int .i64 off, .func (.func 90) #[] #[.pointer (some ⟨w'.heap.size + 2, 0, none⟩), .pointer (some ⟨w'.heap.size + 2 + 2, 0, none⟩), .pointer (some ⟨w'.heap.size + 2 + 1, 0, none⟩)], .int .i64 x, undef, undef, undef, undef, undef, undef, undef, undef, undef, undef, undef, undef, undef, undef, undef], defers := [] }) ?assign ?body ?done ?stop
  case hI =>
    rintro pre A B ⟨h1, h2, h3, ⟨m, rest, h4, h5⟩, h6⟩ hk
    rw [S2] at hk
    have hlt1 := (Array.getElem?_eq_some_iff.1 h1).1
    have hlt2 := (Array.getElem?_eq_some_iff.1 h2).1
    have hlt3 := (Array.getElem?_eq_some_iff.1 h3).1
    exact ⟨(hk.2.1 _ hlt1 (by omega) (by omega)).trans h1, (hk.2.1 _ hlt2 (by omega) (by omega)).trans h2, (hk.2.1 _ hlt3 (by omega) (by omega)).trans h3, ⟨m, rest, Kd.R_step h4 (fun g hg hlt => hk.2.1 g hlt (by omega) (by omega)), h5⟩, ⟨hk.2.2.1.trans h6.os, hk.2.2.2.1.trans h6.tape, hk.2.2.2.2.trans h6.output, Nat.le_trans h6.size hk.1, fun g hg => (hk.2.1 g (by have := h6.size; omega) (by omega) (by omega)).trans (h6.block g hg)⟩⟩
  case h0 => exact ⟨K2, K4, K3, ⟨_, xs, HRX, rfl, rfl⟩, B2⟩
  case assign =>
    intro l x W K hK
    gi_wp2
    exact hK
  case body =>
    rintro l pre x W ⟨hf, hwb, hv, ⟨m, rest, hR, hpr, htw⟩, hB⟩ hpre hsz
    rw [S2] at hsz
    obtain ⟨rest', rfl⟩ : ∃ r, rest = x :: r := by
      obtain ⟨t, ht⟩ := hpre
      refine ⟨t, ?_⟩
      rw [← ht, List.append_assoc] at hpr
      exact List.append_cancel_left hpr
    have hx := HPB.out x (by rw [← hpr]; simp)
    have hx1 : x < (base.toNat : Int) := by have := HB0.out; omega
    obtain ⟨x0, f0⟩ := Kd.R_celln false hR x hx.1 hx1
    have hx0 := hx.1
    have hc := (blk_cell hv 0).trans (show (#[(.slice (some ⟨w'.heap.size, 0, none⟩) base.toNat base.toNat : Value)] : Array Value)[0]? = some (.slice (some ⟨w'.heap.size, 0, none⟩) base.toNat base.toNat) from rfl)
    have BF := Aside0.mk hf
    have BWB := Aside0.mk hwb
    have BK := Aside0.mk hv
    have HO := Aside0.mk hR
    have HBB := Aside0.mk hB
    have HSZ := Aside0.mk hsz
    have HPR := Aside0.mk (And.intro hpr htw)
    clear hf hv hR hB hwb hsz hpre K2 K3 K4 SQ HRX hpr htw hx
    gi_wp2
    have hsz := HSZ.out
    refine ⟨KeepsOthers.setCell _ _ _, ⟨by simp, fun g hg => Below.heap_setCell W ⟨w'.heap.size, x.toNat, none⟩ _ g (by show g ≠ w'.heap.size; omega)⟩, ?_, ?_, ?_, ⟨m.set x.toNat true, rest', Kd.R_putn HO.out x true, by simpa using HPR.out.1, ?_⟩, HBB.out.setCell (p := ⟨w'.heap.size, x.toNat, none⟩) (by show w.heap.size ≤ w'.heap.size; omega) _⟩
    · exact (Below.heap_setCell W ⟨w'.heap.size, x.toNat, none⟩ _ (w.heap.size + 2) (by show w.heap.size + 2 ≠ w'.heap.size; omega)).trans BF.out
    · exact (Below.heap_setCell W ⟨w'.heap.size, x.toNat, none⟩ _ (w.heap.size + 1) (by show w.heap.size + 1 ≠ w'.heap.size; omega)).trans BWB.out
    · exact (Below.heap_setCell W ⟨w'.heap.size, x.toNat, none⟩ _ (w'.heap.size + 1) (by show w'.heap.size + 1 ≠ w'.heap.size; omega)).trans BK.out
    · have h := HPR.out.2
      simp only [mkF] at h
      exact h
  case stop =>
    rintro D c pre W _ _ h _
    exact h.elim
  case done =>
    rintro D wa rfl ⟨hf, hwb, hv, ⟨m, rest, hR, hpr, htw⟩, hB⟩ hK
    have hr0 : rest = [] := List.append_cancel_left (hpr.trans (List.append_nil xs).symm)
    rw [hr0] at htw
    simp only [mkF] at htw
    subst htw
    obtain ⟨M, hM⟩ : ∃ M, M = mkF (List.replicate base.toNat false) xs := ⟨_, rfl⟩
    rw [← hM] at hR
    have HM := Aside0.mk hM
    clear hM hpr hr0 K2 K3 K4 SQ HRX B2
    have hDlt := (Array.getElem?_eq_some_iff.1 hK).1
    obtain ⟨j0, j1, j2, j3⟩ := blk4 hwb
    have HF := Aside0.mk hf
    have HV := Aside0.mk hv
    have HRR := Aside0.mk hR
    have HBB := Aside0.mk hB
    have HKK := Aside0.mk hK
    clear hf hv hR hB hK hwb
    gi_wp2_with (refine ⟨trivial, ?_⟩; gi_at_call 56; refine (spots_in (n - 1) (.int .i64 0) (.int .i64 0) off2 _ B0 B1 es.length c2 ts.length c3).mono ?_; rintro e w9 ⟨rfl, rfl⟩)
    clear j0 j1 j2 j3
    have hB := HBB.out
    have hbs := hB.size
    have SQ := spots_seq (n - 1) (by omega) B0 B1 c2 c3 k es ts ys off2 w wa HR2.out.1 HR3.out.1 HL3.out.1 HL3.out.2 hbs (fun g hg => hB.block g hg) HY.out
    have B3 : Below w.heap.size w (((wa.alloc (.cells #[.slice B0 es.length c2] 41)).alloc (.cells #[.slice B1 ts.length c3] 41)).alloc (.cells #[.int .i64 off2] 3)) := ((hB.alloc (by omega) _).alloc (by simp; omega) _).alloc (by simp; omega) _
    have S3 : (((wa.alloc (.cells #[.slice B0 es.length c2] 41)).alloc (.cells #[.slice B1 ts.length c3] 41)).alloc (.cells #[.int .i64 off2] 3)).heap.size = wa.heap.size + 3 := by simp
    have K2 := blk_alloc (blk_alloc (blk_alloc HF.out (.cells #[.slice B0 es.length c2] 41)) (.cells #[.slice B1 ts.length c3] 41)) (.cells #[.int .i64 off2] 3)
    have K3 := blk_alloc (blk_alloc (blk_alloc HV.out (.cells #[.slice B0 es.length c2] 41)) (.cells #[.slice B1 ts.length c3] 41)) (.cells #[.int .i64 off2] 3)
    have K5 := blk_alloc (blk_alloc (blk_alloc HKK.out (.cells #[.slice B0 es.length c2] 41)) (.cells #[.slice B1 ts.length c3] 41)) (.cells #[.int .i64 off2] 3)
    have HRX := Kd.R_alloc (Kd.R_alloc (Kd.R_alloc HRR.out (.cells #[.slice B0 es.length c2] 41)) (.cells #[.slice B1 ts.length c3] 41)) (.cells #[.int .i64 off2] 3)
    obtain ⟨w3, hw3⟩ : ∃ w3, w3 = ((wa.alloc (.cells #[.slice B0 es.length c2] 41)).alloc (.cells #[.slice B1 ts.length c3] 41)).alloc (.cells #[.int .i64 off2] 3) := ⟨_, rfl⟩
    rw [← hw3] at SQ B3 S3 K2 K3 K5 HRX ⊢
    clear hw3 HF HV HKK HRR HBB hB
    refine rangeFunc_row (w := w3) rfl h1 (gf := 90) (lb := #[.pointer (some ⟨wa.heap.size, 0, none⟩), .pointer (some ⟨wa.heap.size + 2, 0, none⟩), .pointer (some ⟨wa.heap.size + 1, 0, none⟩)]) rfl trivial (enters_of Try.func90 (by kernel_rfl) rfl)
      SQ (by intro g hg; omega) (fun _ => rfl)
      (fun pre W => W.heap[w.heap.size + 2]? = some (.cells #[.bool false] 4 (0, 0)) ∧ W.heap[w'.heap.size + 1]? = some (.cells #[.slice (some ⟨w'.heap.size, 0, none⟩) base.toNat base.toNat] 79 (0, 0)) ∧ W.heap[w2.heap.size]? = some (.deferred (some [])) ∧ Kd.R Kd.bool 4 W w'.heap.size (fun g => g = w'.heap.size) (.slice (some ⟨w'.heap.size, 0, none⟩) base.toNat base.toNat) M ∧ pre.any (fun p => rdOf false M p) = false ∧ Below w.heap.size w W)
      (fun c pre W => c = .ret ∧ W.heap[w.heap.size + 2]? = some (.cells #[.bool true] 4 (0, 0)) ∧ W.heap[w2.heap.size]? = some (.deferred (some [])) ∧ ys.any (fun p => rdOf false M p) = true ∧ Below w.heap.size w W) ?hI ?hIx ?h0
      (fun x => { tmps := #[.agg #[.slice A0 ds.length c0, .slice A1 ss.length c1, .int .i64 off, .int .i64 base], .agg #[.slice B0 es.length c2, .slice B1 ts.length c3, .int .i64 off2, .int .i64 base], .pointer (some ⟨w.heap.size, 0, none⟩), .pointer (some ⟨w.heap.size + 1, 0, none⟩), .pointer (some ⟨w.heap.size + 2, 0, none⟩), .pointer (some ⟨w'.heap.size + 1, 0, none⟩), undef, .int .i64 x, .agg #[.slice A0 ds.length c0, .slice A1 ss.length c1, .int .i64 off, .int .i64 base], .bool true, .bool false, .bool false, .agg #[.slice B0 es.length c2, .slice B1 ts.length c3, .int .i64 off2, .int .i64 base], .bool true, .bool false, .bool false, .bool false, .pointer (some ⟨w.heap.size, 3, none⟩), .int .i64 base, .pointer (some ⟨w.heap.size + 1, 3, none⟩), .int .i64 base, .bool false, .bool false, .pointer (some ⟨w.heap.size, 3, none⟩), .int .i64 base, .slice (some ⟨w'.heap.size, 0, none⟩) base.toNat base.toNat, .pointer (some ⟨w.heap.size, 0, none⟩), .slice A0 ds.length c0, .pointer (some ⟨w.heap.size, 1, none⟩), .slice A1 ss.length c1, .pointer (some ⟨w.heap.size, 2, none⟩), .int .i64 off, .func (.func 90) #[] #[.pointer (some ⟨w'.heap.size + 2, 0, none⟩), .pointer (some ⟨w'.heap.size + 2 + 2, 0, none⟩), .pointer (some ⟨w'.heap.size + 2 + 1, 0, none⟩)], undef, undef, undef, undef, .pointer (some ⟨w.heap.size + 1, 0, none⟩), .slice B0 es.length c2, .pointer (some ⟨w.heap.size + 1, 1, none⟩), .slice B1 ts.length c3, .pointer (some ⟨w.heap.size + 1, 2, none⟩), .int .i64 off2, .func (.func 90) #[] #[.pointer (some ⟨wa.heap.size, 0, none⟩), .pointer (some ⟨wa.heap.size + 2, 0, none⟩), .pointer (some ⟨wa.heap.size + 1, 0, none⟩)], .int .i64 x, undef, undef, undef, undef], defers := [] }) ?assign ?body ?done ?stop
    case hI =>
      rintro pre A B ⟨h1, h2, h3, h4, h5, h6⟩ hk
      rw [S3] at hk
      have hlt1 := (Array.getElem?_eq_some_iff.1 h1).1
      have hlt2 := (Array.getElem?_eq_some_iff.1 h2).1
      have hlt3 := (Array.getElem?_eq_some_iff.1 h3).1
      exact ⟨(hk.2.1 _ hlt1 (by omega) (by omega)).trans h1, (hk.2.1 _ hlt2 (by omega) (by omega)).trans h2, (hk.2.1 _ hlt3 (by omega) (by omega)).trans h3, Kd.R_step h4 (fun g hg hlt => hk.2.1 g hlt (by omega) (by omega)), h5, ⟨hk.2.2.1.trans h6.os, hk.2.2.2.1.trans h6.tape, hk.2.2.2.2.trans h6.output, Nat.le_trans h6.size hk.1, fun g hg => (hk.2.1 g (by have := h6.size; omega) (by omega) (by omega)).trans (h6.block g hg)⟩⟩
    case hIx =>
      rintro c pre A B ⟨h0, h1, h3, h5, h6⟩ hk
      rw [S3] at hk
      have hlt1 := (Array.getElem?_eq_some_iff.1 h1).1
      have hlt3 := (Array.getElem?_eq_some_iff.1 h3).1
      exact ⟨h0, (hk.2.1 _ hlt1 (by omega) (by omega)).trans h1, (hk.2.1 _ hlt3 (by omega) (by omega)).trans h3, h5, ⟨hk.2.2.1.trans h6.os, hk.2.2.2.1.trans h6.tape, hk.2.2.2.2.trans h6.output, Nat.le_trans h6.size hk.1, fun g hg => (hk.2.1 g (by have := h6.size; omega) (by omega) (by omega)).trans (h6.block g hg)⟩⟩
    case h0 => exact ⟨K2, K3, K5, HRX, rfl, B3⟩
    case assign =>
      intro l x W K hK
      gi_wp2
      exact hK
    case body =>
      rintro l pre x W ⟨hf, hv, hd, hR, hpr, hB⟩ hpre hsz
      have hxm : x ∈ ys := hpre.subset (by simp)
      have hx := HQB.out x hxm
      have hx1 : x < (base.toNat : Int) := by have := HB0.out; omega
      obtain ⟨x0, f0⟩ := Kd.R_celln false hR x hx.1 hx1
      have hx0 := hx.1
      have hc := (blk_cell hv 0).trans (show (#[(.slice (some ⟨w'.heap.size, 0, none⟩) base.toNat base.toNat : Value)] : Array Value)[0]? = some (.slice (some ⟨w'.heap.size, 0, none⟩) base.toNat base.toNat) from rfl)
      have hcb := (blk_cell hf 0).trans (show (#[.bool false] : Array Value)[0]? = some (.bool false) from rfl)
      have hfz := blk_frozen hf 0
      have BF := Aside0.mk hf
      have BK := Aside0.mk hv
      have BD := Aside0.mk hd
      have HO := Aside0.mk hR
      have HBB := Aside0.mk hB
      have HSZ := Aside0.mk hsz
      have HPR := Aside0.mk (And.intro hpr hxm)
      clear hf hv hR hB hd hsz hpre K2 K3 K5 SQ HRX hpr hx hxm
      by_cases hm : rdOf false M x = true
      · rw [hm] at x0
        gi_wp2
        refine ⟨KeepsOthers.setCell _ _ _, rfl, blk_put BF.out 0 _ rfl, (Below.heap_setCell W ⟨w.heap.size + 2, 0, none⟩ _ w2.heap.size (by show w2.heap.size ≠ w.heap.size + 2; omega)).trans BD.out, ?_, HBB.out.setCell (p := ⟨w.heap.size + 2, 0, none⟩) (by show w.heap.size ≤ w.heap.size + 2; omega) _⟩
        exact List.any_eq_true.2 ⟨x, HPR.out.2, hm⟩
      · have hm' : rdOf false M x = false := by simpa using hm
        rw [hm'] at x0
        gi_wp2
        refine ⟨KeepsOthers.refl _, ⟨Nat.le_refl _, fun g hg => rfl⟩, BF.out, BK.out, BD.out, HO.out, ?_, HBB.out⟩
        rw [List.any_append, HPR.out.1]
        simp [hm']
    case done =>
      rintro D W rfl ⟨hf, hv, hd, hR, hpr, hB⟩ hK
      have hc := (blk_cell hf 0).trans (show (#[.bool false] : Array Value)[0]? = some (.bool false) from rfl)
      have hfz := blk_frozen hf 0
      gi_wp2
      have hf2 : (W.setCell ⟨w.heap.size + 2, 0, none⟩ (.bool false)).heap[w.heap.size + 2]? = some (.cells #[.bool false] 4 (0, 0)) := blk_put hf 0 _ rfl
      have hK2 := (Below.heap_setCell W ⟨w.heap.size + 2, 0, none⟩ (.bool false) w3.heap.size (by show w3.heap.size ≠ w.heap.size + 2; omega)).trans hK
      have hd2 := (Below.heap_setCell W ⟨w.heap.size + 2, 0, none⟩ (.bool false) w2.heap.size (by show w2.heap.size ≠ w.heap.size + 2; omega)).trans hd
      refine ⟨by simp, .inl ⟨_, _, rfl, run_takeDeferred hK2, ?_⟩⟩
      have hd3 := (World.putObj_heap_other (o := .deferred none) (by omega : w2.heap.size ≠ w3.heap.size)).trans hd2
      rw [S2] at hd3
      refine ⟨by simp, .inl ⟨_, _, rfl, run_takeDeferred hd3, ?_⟩⟩
      refine ⟨_, results_cell1 rfl _ _ _ ⟨w.heap.size + 2, 0, none⟩ (.bool false) rfl (load_bool _ _ _ ((blk_cell ((World.putObj_heap_other (by omega)).trans ((World.putObj_heap_other (by omega)).trans hf2)) 0).trans rfl)), ?_, ?_⟩
      · rw [← HM.out, hpr]
      · exact ((hB.setCell (p := ⟨w.heap.size + 2, 0, none⟩) (by show w.heap.size ≤ w.heap.size + 2; omega) _).trans (belowK_b (w := w) (Nat.le_refl _) _ w3.heap.size _ _ (by omega) hK2 rfl rfl)).trans (belowK_b (w := w) (Nat.le_refl _) _ (w'.heap.size + 5) _ _ (by omega) hd3 rfl rfl)
    case stop =>
      rintro D c pre W rfl _ ⟨rfl, hf, hd, htw, hB⟩ hK
      gi_wp2
      refine ⟨by simp, .inl ⟨_, _, rfl, run_takeDeferred hK, ?_⟩⟩
      have hd3 := (World.putObj_heap_other (o := .deferred none) (by omega : w2.heap.size ≠ w3.heap.size)).trans hd
      rw [S2] at hd3
      refine ⟨by simp, .inl ⟨_, _, rfl, run_takeDeferred hd3, ?_⟩⟩
      refine ⟨_, results_cell1 rfl _ _ _ ⟨w.heap.size + 2, 0, none⟩ (.bool true) rfl (load_bool _ _ _ ((blk_cell ((World.putObj_heap_other (by omega)).trans ((World.putObj_heap_other (by omega)).trans hf)) 0).trans rfl)), ?_, ?_⟩
      · rw [← HM.out, htw]
      · exact (hB.trans (belowK_b (w := w) (Nat.le_refl _) _ w3.heap.size _ _ (by omega) hK rfl rfl)).trans (belowK_b (w := w) (Nat.le_refl _) _ (w'.heap.size + 5) _ _ (by omega) hd3 rfl rfl)
set_option maxHeartbeats 4000000 in
set_option maxRecDepth 100000 in
theorem meet_no1 (n : Nat) (hn : 3 ≤ n) (k : Nat) (A0 A1 B0 B1 : Option Addr) (c0 c1 c2 c3 : Nat) (ds ss es ts : List Int) (off off2 base base2 : Int) (w : World)
    (hr0 : Kd.C (Kd.int .i64) w A0 ds.length ds) (hc0 : ds.length ≤ c0) (hr1 : Kd.C (Kd.int .i64) w A1 ss.length ss) (hc1 : ss.length ≤ c1)
    (hr2 : Kd.C (Kd.int .i64) w B0 es.length es) (hc2 : es.length ≤ c2) (hr3 : Kd.C (Kd.int .i64) w B1 ts.length ts) (hc3 : ts.length ≤ c3)
    (hvo : impl_ViewOk.f k ds ss off base = some false) :
    CallsIn Fence.wide n Try.prog 30 #[.agg #[.slice A0 ds.length c0, .slice A1 ss.length c1, .int .i64 off, .int .i64 base], .agg #[.slice B0 es.length c2, .slice B1 ts.length c3, .int .i64 off2, .int .i64 base2]] w fun e w' => e = .returned (.bool false) ∧ Below w.heap.size w w' := by
  have HR0 := Aside0.mk (And.intro hr0 hc0)
  have HR1 := Aside0.mk (And.intro hr1 hc1)
  have HR2 := Aside0.mk (And.intro hr2 hc2)
  have HR3 := Aside0.mk (And.intro hr3 hc3)
  have HVO := Aside0.mk hvo
  clear hr0 hr1 hr2 hr3 hc0 hc1 hc2 hc3 hvo
  refine callsIn_of_wp_marks Try.func30 rfl trivial ?_ rfl
  simp only [Try.ntmps30, List.size_toArray, List.length_cons, List.length_nil, Nat.reduceAdd, Nat.reduceSub, Array.replicate_succ, Array.replicate_zero, List.push_toArray, List.append_toArray, List.nil_append, List.cons_append]
  have h1 : 1 ≤ n := by omega
  gi_wp2_with (first | (refine ⟨trivial, ?_⟩; gi_at_call 55; refine (callsIn_wide.2 (impl_ViewOk.calls k _ _ ds _ _ ss off base false _ (Kd.C_alloc (Kd.C_alloc (Kd.C_alloc HR0.out.1 _) _) _) HR0.out.2 (Kd.C_alloc (Kd.C_alloc (Kd.C_alloc HR1.out.1 _) _) _) HR1.out.2 HVO.out)).mono ?_; rintro e w1 ⟨rfl, hbw⟩; have KA1 := Aside0.mk (show w1.heap[w.heap.size]? = some (.cells #[.slice A0 ds.length c0, .slice A1 ss.length c1, .int .i64 off, .int .i64 base] 46 (0, 0)) from (hbw.block w.heap.size (by simp <;> omega)).trans (blk_alloc3 w _ _ _).1); have KA2 := Aside0.mk (show w1.heap[w.heap.size + 1]? = some (.cells #[.slice B0 es.length c2, .slice B1 ts.length c3, .int .i64 off2, .int .i64 base2] 46 (0, 0)) from (hbw.block (w.heap.size + 1) (by simp <;> omega)).trans (blk_alloc3 w _ _ _).2.1); have KA3 := Aside0.mk (show w1.heap[w.heap.size + 2]? = some (.cells #[.bool false] 4 (0, 0)) from (hbw.block (w.heap.size + 2) (by simp)).trans (blk_alloc3 w _ _ _).2.2); have BW1 := Aside0.mk (show Below w.heap.size w w1 from below_step ((((Below.refl _ w).alloc (Nat.le_refl _) _).alloc (by simp) _).alloc (by simp <;> omega) _) hbw); have SW1 := Aside0.mk (show w.heap.size + 3 ≤ w1.heap.size from by have := hbw.size; simp at this; omega); obtain ⟨g0, g1, g2, g3⟩ := blk4 KA2.out; clear hbw; have kb := (blk_cell KA3.out 0).trans (show (#[.bool false] : Array Value)[0]? = some (.bool false) from rfl); have kf := blk_frozen KA3.out 0) | (refine ⟨trivial, ?_⟩))
  have hf2 : (w1.setCell ⟨w.heap.size + 2, 0, none⟩ (.bool false)).heap[w.heap.size + 2]? = some (.cells #[.bool false] 4 (0, 0)) := blk_put KA3.out 0 _ rfl
  refine ⟨_, results_cell1 rfl _ _ _ ⟨w.heap.size + 2, 0, none⟩ (.bool false) rfl (load_bool _ _ _ ((blk_cell hf2 0).trans rfl)), rfl, ?_⟩
  exact BW1.out.setCell (p := ⟨w.heap.size + 2, 0, none⟩) (by show w.heap.size ≤ w.heap.size + 2; omega) _
set_option maxHeartbeats 4000000 in
set_option maxRecDepth 100000 in
theorem meet_no2 (n : Nat) (hn : 3 ≤ n) (k : Nat) (A0 A1 B0 B1 : Option Addr) (c0 c1 c2 c3 : Nat) (ds ss es ts : List Int) (off off2 base base2 : Int) (w : World)
    (hr0 : Kd.C (Kd.int .i64) w A0 ds.length ds) (hc0 : ds.length ≤ c0) (hr1 : Kd.C (Kd.int .i64) w A1 ss.length ss) (hc1 : ss.length ≤ c1)
    (hr2 : Kd.C (Kd.int .i64) w B0 es.length es) (hc2 : es.length ≤ c2) (hr3 : Kd.C (Kd.int .i64) w B1 ts.length ts) (hc3 : ts.length ≤ c3)
    (hvo : impl_ViewOk.f k ds ss off base = some true) (hvo2 : impl_ViewOk.f k es ts off2 base2 = some false) :
    CallsIn Fence.wide n Try.prog 30 #[.agg #[.slice A0 ds.length c0, .slice A1 ss.length c1, .int .i64 off, .int .i64 base], .agg #[.slice B0 es.length c2, .slice B1 ts.length c3, .int .i64 off2, .int .i64 base2]] w fun e w' => e = .returned (.bool false) ∧ Below w.heap.size w w' := by
  have HR0 := Aside0.mk (And.intro hr0 hc0)
  have HR1 := Aside0.mk (And.intro hr1 hc1)
  have HR2 := Aside0.mk (And.intro hr2 hc2)
  have HR3 := Aside0.mk (And.intro hr3 hc3)
  have HVO := Aside0.mk hvo
  have HVO2 := Aside0.mk hvo2
  clear hvo2
  clear hr0 hr1 hr2 hr3 hc0 hc1 hc2 hc3 hvo
  refine callsIn_of_wp_marks Try.func30 rfl trivial ?_ rfl
  simp only [Try.ntmps30, List.size_toArray, List.length_cons, List.length_nil, Nat.reduceAdd, Nat.reduceSub, Array.replicate_succ, Array.replicate_zero, List.push_toArray, List.append_toArray, List.nil_append, List.cons_append]
  have h1 : 1 ≤ n := by omega
  gi_wp2_with (first | (refine ⟨trivial, ?_⟩; gi_at_call 55; refine (callsIn_wide.2 (impl_ViewOk.calls k _ _ es _ _ ts off2 base2 false w1 (Kd.C_below HR2.out.1 BW1.out) HR2.out.2 (Kd.C_below HR3.out.1 BW1.out) HR3.out.2 HVO2.out)).mono ?_; rintro e w' ⟨rfl, hbw⟩; have hsw1 := SW1.out; have KA := Aside0.mk ((hbw.block w.heap.size (by omega)).trans KA1.out); have KB := Aside0.mk ((hbw.block (w.heap.size + 1) (by omega)).trans KA2.out); have KC := Aside0.mk ((hbw.block (w.heap.size + 2) (by omega)).trans KA3.out); have BW := Aside0.mk (show Below w.heap.size w w' from below_step BW1.out hbw); obtain ⟨d0, d1, d2, d3⟩ := blk4 KA.out; obtain ⟨j0, j1, j2, j3⟩ := blk4 KB.out; have kb := (blk_cell KC.out 0).trans (show (#[.bool false] : Array Value)[0]? = some (.bool false) from rfl); have kf := blk_frozen KC.out 0; clear hbw hsw1 g0 g1 g2 g3) | (refine ⟨trivial, ?_⟩; gi_at_call 55; refine (callsIn_wide.2 (impl_ViewOk.calls k _ _ ds _ _ ss off base true _ (Kd.C_alloc (Kd.C_alloc (Kd.C_alloc HR0.out.1 _) _) _) HR0.out.2 (Kd.C_alloc (Kd.C_alloc (Kd.C_alloc HR1.out.1 _) _) _) HR1.out.2 HVO.out)).mono ?_; rintro e w1 ⟨rfl, hbw⟩; have KA1 := Aside0.mk (show w1.heap[w.heap.size]? = some (.cells #[.slice A0 ds.length c0, .slice A1 ss.length c1, .int .i64 off, .int .i64 base] 46 (0, 0)) from (hbw.block w.heap.size (by simp <;> omega)).trans (blk_alloc3 w _ _ _).1); have KA2 := Aside0.mk (show w1.heap[w.heap.size + 1]? = some (.cells #[.slice B0 es.length c2, .slice B1 ts.length c3, .int .i64 off2, .int .i64 base2] 46 (0, 0)) from (hbw.block (w.heap.size + 1) (by simp <;> omega)).trans (blk_alloc3 w _ _ _).2.1); have KA3 := Aside0.mk (show w1.heap[w.heap.size + 2]? = some (.cells #[.bool false] 4 (0, 0)) from (hbw.block (w.heap.size + 2) (by simp)).trans (blk_alloc3 w _ _ _).2.2); have BW1 := Aside0.mk (show Below w.heap.size w w1 from below_step ((((Below.refl _ w).alloc (Nat.le_refl _) _).alloc (by simp) _).alloc (by simp <;> omega) _) hbw); have SW1 := Aside0.mk (show w.heap.size + 3 ≤ w1.heap.size from by have := hbw.size; simp at this; omega); obtain ⟨g0, g1, g2, g3⟩ := blk4 KA2.out; clear hbw))
  have hf2 : (w'.setCell ⟨w.heap.size + 2, 0, none⟩ (.bool false)).heap[w.heap.size + 2]? = some (.cells #[.bool false] 4 (0, 0)) := blk_put KC.out 0 _ rfl
  refine ⟨_, results_cell1 rfl _ _ _ ⟨w.heap.size + 2, 0, none⟩ (.bool false) rfl (load_bool _ _ _ ((blk_cell hf2 0).trans rfl)), rfl, ?_⟩
  exact BW.out.setCell (p := ⟨w.heap.size + 2, 0, none⟩) (by show w.heap.size ≤ w.heap.size + 2; omega) _
set_option maxHeartbeats 4000000 in
set_option maxRecDepth 100000 in
theorem meet_no3 (n : Nat) (hn : 3 ≤ n) (k : Nat) (A0 A1 B0 B1 : Option Addr) (c0 c1 c2 c3 : Nat) (ds ss es ts : List Int) (off off2 base base2 : Int) (w : World)
    (hr0 : Kd.C (Kd.int .i64) w A0 ds.length ds) (hc0 : ds.length ≤ c0) (hr1 : Kd.C (Kd.int .i64) w A1 ss.length ss) (hc1 : ss.length ≤ c1)
    (hr2 : Kd.C (Kd.int .i64) w B0 es.length es) (hc2 : es.length ≤ c2) (hr3 : Kd.C (Kd.int .i64) w B1 ts.length ts) (hc3 : ts.length ≤ c3)
    (hvo : impl_ViewOk.f k ds ss off base = some true) (hvo2 : impl_ViewOk.f k es ts off2 base2 = some true) (hne : base ≠ base2) :
    CallsIn Fence.wide n Try.prog 30 #[.agg #[.slice A0 ds.length c0, .slice A1 ss.length c1, .int .i64 off, .int .i64 base], .agg #[.slice B0 es.length c2, .slice B1 ts.length c3, .int .i64 off2, .int .i64 base2]] w fun e w' => e = .returned (.bool false) ∧ Below w.heap.size w w' := by
  have HR0 := Aside0.mk (And.intro hr0 hc0)
  have HR1 := Aside0.mk (And.intro hr1 hc1)
  have HR2 := Aside0.mk (And.intro hr2 hc2)
  have HR3 := Aside0.mk (And.intro hr3 hc3)
  have HVO := Aside0.mk hvo
  have HVO2 := Aside0.mk hvo2
  clear hvo2
  clear hr0 hr1 hr2 hr3 hc0 hc1 hc2 hc3 hvo
  refine callsIn_of_wp_marks Try.func30 rfl trivial ?_ rfl
  simp only [Try.ntmps30, List.size_toArray, List.length_cons, List.length_nil, Nat.reduceAdd, Nat.reduceSub, Array.replicate_succ, Array.replicate_zero, List.push_toArray, List.append_toArray, List.nil_append, List.cons_append]
  have h1 : 1 ≤ n := by omega
  gi_wp2_with (first | (refine ⟨trivial, ?_⟩; gi_at_call 55; refine (callsIn_wide.2 (impl_ViewOk.calls k _ _ es _ _ ts off2 base2 true w1 (Kd.C_below HR2.out.1 BW1.out) HR2.out.2 (Kd.C_below HR3.out.1 BW1.out) HR3.out.2 HVO2.out)).mono ?_; rintro e w' ⟨rfl, hbw⟩; have hsw1 := SW1.out; have KA := Aside0.mk ((hbw.block w.heap.size (by omega)).trans KA1.out); have KB := Aside0.mk ((hbw.block (w.heap.size + 1) (by omega)).trans KA2.out); have KC := Aside0.mk ((hbw.block (w.heap.size + 2) (by omega)).trans KA3.out); have BW := Aside0.mk (show Below w.heap.size w w' from below_step BW1.out hbw); obtain ⟨d0, d1, d2, d3⟩ := blk4 KA.out; obtain ⟨j0, j1, j2, j3⟩ := blk4 KB.out; have kb := (blk_cell KC.out 0).trans (show (#[.bool false] : Array Value)[0]? = some (.bool false) from rfl); have kf := blk_frozen KC.out 0; clear hbw hsw1 g0 g1 g2 g3) | (refine ⟨trivial, ?_⟩; gi_at_call 55; refine (callsIn_wide.2 (impl_ViewOk.calls k _ _ ds _ _ ss off base true _ (Kd.C_alloc (Kd.C_alloc (Kd.C_alloc HR0.out.1 _) _) _) HR0.out.2 (Kd.C_alloc (Kd.C_alloc (Kd.C_alloc HR1.out.1 _) _) _) HR1.out.2 HVO.out)).mono ?_; rintro e w1 ⟨rfl, hbw⟩; have KA1 := Aside0.mk (show w1.heap[w.heap.size]? = some (.cells #[.slice A0 ds.length c0, .slice A1 ss.length c1, .int .i64 off, .int .i64 base] 46 (0, 0)) from (hbw.block w.heap.size (by simp <;> omega)).trans (blk_alloc3 w _ _ _).1); have KA2 := Aside0.mk (show w1.heap[w.heap.size + 1]? = some (.cells #[.slice B0 es.length c2, .slice B1 ts.length c3, .int .i64 off2, .int .i64 base2] 46 (0, 0)) from (hbw.block (w.heap.size + 1) (by simp <;> omega)).trans (blk_alloc3 w _ _ _).2.1); have KA3 := Aside0.mk (show w1.heap[w.heap.size + 2]? = some (.cells #[.bool false] 4 (0, 0)) from (hbw.block (w.heap.size + 2) (by simp)).trans (blk_alloc3 w _ _ _).2.2); have BW1 := Aside0.mk (show Below w.heap.size w w1 from below_step ((((Below.refl _ w).alloc (Nat.le_refl _) _).alloc (by simp) _).alloc (by simp <;> omega) _) hbw); have SW1 := Aside0.mk (show w.heap.size + 3 ≤ w1.heap.size from by have := hbw.size; simp at this; omega); obtain ⟨g0, g1, g2, g3⟩ := blk4 KA2.out; clear hbw))
  have hf2 : (w'.setCell ⟨w.heap.size + 2, 0, none⟩ (.bool false)).heap[w.heap.size + 2]? = some (.cells #[.bool false] 4 (0, 0)) := blk_put KC.out 0 _ rfl
  refine ⟨_, results_cell1 rfl _ _ _ ⟨w.heap.size + 2, 0, none⟩ (.bool false) rfl (load_bool _ _ _ ((blk_cell hf2 0).trans rfl)), rfl, ?_⟩
  exact BW.out.setCell (p := ⟨w.heap.size + 2, 0, none⟩) (by show w.heap.size ≤ w.heap.size + 2; omega) _
end

set_option maxHeartbeats 8000000 in
set_option maxRecDepth 100000 in
theorem impl_Meet.calls (k : Nat) (A0_0 : Option Addr) (c0_0 : Nat) (l0_0 : List Int) (A0_1 : Option Addr) (c0_1 : Nat) (l0_1 : List Int) (a0_2 : Int) (a0_3 : Int) (A1_0 : Option Addr) (c1_0 : Nat) (l1_0 : List Int) (A1_1 : Option Addr) (c1_1 : Nat) (l1_1 : List Int) (a1_2 : Int) (a1_3 : Int) (r : Bool) (w : World) (hr0_0 : Kd.C (Kd.int .i64) w A0_0 l0_0.length l0_0) (hc0_0 : l0_0.length ≤ c0_0) (hr0_1 : Kd.C (Kd.int .i64) w A0_1 l0_1.length l0_1) (hc0_1 : l0_1.length ≤ c0_1) (hr1_0 : Kd.C (Kd.int .i64) w A1_0 l1_0.length l1_0) (hc1_0 : l1_0.length ≤ c1_0) (hr1_1 : Kd.C (Kd.int .i64) w A1_1 l1_1.length l1_1) (hc1_1 : l1_1.length ≤ c1_1) (h : impl_Meet.f k l0_0 l0_1 a0_2 a0_3 l1_0 l1_1 a1_2 a1_3 = some r) :
    Calls Try.prog 30 #[.agg #[.slice A0_0 l0_0.length c0_0, .slice A0_1 l0_1.length c0_1, .int .i64 a0_2, .int .i64 a0_3], .agg #[.slice A1_0 l1_0.length c1_0, .slice A1_1 l1_1.length c1_1, .int .i64 a1_2, .int .i64 a1_3]] w fun e w' => e = .returned (.bool r) ∧ Below w.heap.size w w' := by
  unfold impl_Meet.f at h
  obtain ⟨t, hv, hA⟩ := Option.bind_eq_some_iff.mp h
  cases t with
  | false =>
    rw [if_neg (by simp)] at hA
    obtain rfl := Option.some.inj hA
    exact (callsIn_wide (n := 3)).1 (meet_no1 3 (Nat.le_refl _) k _ _ _ _ c0_0 c0_1 c1_0 c1_1 l0_0 l0_1 l1_0 l1_1 _ _ a0_3 a1_3 w hr0_0 hc0_0 hr0_1 hc0_1 hr1_0 hc1_0 hr1_1 hc1_1 hv)
  | true =>
    rw [if_pos rfl] at hA
    obtain ⟨u, hu, hB⟩ := Option.bind_eq_some_iff.mp hA
    cases u with
    | false =>
      rw [if_neg (by simp)] at hB
      obtain rfl := Option.some.inj hB
      exact (callsIn_wide (n := 3)).1 (meet_no2 3 (Nat.le_refl _) k _ _ _ _ c0_0 c0_1 c1_0 c1_1 l0_0 l0_1 l1_0 l1_1 _ _ a0_3 a1_3 w hr0_0 hc0_0 hr0_1 hc0_1 hr1_0 hc1_0 hr1_1 hc1_1 hv hu)
    | true =>
      rw [if_pos rfl] at hB
      by_cases cb : a0_3 = a1_3
      · rw [if_pos cb] at hB
        subst cb
        by_cases c1 : ((l0_0.length ≤ l0_1.length ∧ l0_0.length ≤ 1000) ∧ (l1_0.length ≤ l1_1.length ∧ l1_0.length ≤ 1000)) ∧ 0 ≤ a0_3 ∧ a0_3 ≤ 1000000
        · rw [if_pos c1] at hB
          obtain ⟨xs, hx, hC⟩ := Option.bind_eq_some_iff.mp hB
          obtain ⟨ys, hy, hD⟩ := Option.bind_eq_some_iff.mp hC
          by_cases c2 : (∀ p ∈ xs, 0 ≤ p ∧ p < a0_3) ∧ (∀ p ∈ ys, 0 ≤ p ∧ p < a0_3)
          · rw [if_pos c2] at hD
            obtain rfl := Option.some.inj hD
            exact (callsIn_wide (n := 3)).1 (meet_in 3 (Nat.le_refl _) _ _ _ _ c0_0 c0_1 c1_0 c1_1 k l0_0 l0_1 xs l1_0 l1_1 ys _ _ a0_3 w hr0_0 hc0_0 hr0_1 hc0_1 c1.1.1.1 c1.1.1.2 c1.2.1 c1.2.2 hr1_0 hc1_0 hr1_1 hc1_1 c1.1.2.1 c1.1.2.2 hv hu hx c2.1 hy c2.2)
          · rw [if_neg c2] at hD
            cases hD
        · rw [if_neg c1] at hB
          cases hB
      · rw [if_neg cb] at hB
        obtain rfl := Option.some.inj hB
        exact (callsIn_wide (n := 3)).1 (meet_no3 3 (Nat.le_refl _) k _ _ _ _ c0_0 c0_1 c1_0 c1_1 l0_0 l0_1 l1_0 l1_1 _ _ a0_3 a1_3 w hr0_0 hc0_0 hr0_1 hc0_1 hr1_0 hc1_0 hr1_1 hc1_1 hv hu cb)

end Go.Proofs.Ytpoblnigmfbnfaa.PFnExactMeet
