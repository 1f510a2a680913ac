-- Printed out of the translation, hand-written contracts beside it; checked by the kernel alone.
import Derived.Test.YtcpemdedmepfeacPFnExactLookx0
import Derived.Test.YtcpemdedmepfeacPFnExactLookx6
import Derived.Test.YtcpemdedmepfeacPFnExactLookx7
namespace Go.Proofs.Ytcpemdedmepfeac.PFnExactLook
open Go.RowKit Go.Proofs.YtcpemdedmepfeacW.PrintWords Go.Proofs.YtcpemdedmepfeacW.PrintLast Go.Proofs.YtcpemdedmepfeacW.PrintMore
attribute [local go_sem] max2_int min2_int max_two min_two max_three min_three max_four min_four   -- for this text's walks alone
set_option linter.unusedVariables false
set_option linter.unusedSimpArgs false

/-! ### impl_shown: function 51 -/
section
attribute [local go_sem] Oper.semAt_some
/-! ### a range over an iterator that keeps a row of its own -/
/-- All that lay is as it lay, but for two blocks; new ones may have come. -/
def KeepTwo (A B : World) (r X : Nat) : Prop := A.heap.size ≤ B.heap.size ∧ (∀ k, k < A.heap.size → k ≠ r → k ≠ X → B.heap[k]? = A.heap[k]?) ∧ B.os = A.os ∧ B.tape = A.tape ∧ B.output = A.output
/-- What a round leaves alone: the iterator's row and what is told. -/
def RoundKeeps (prot : Nat → Prop) (X : Nat) (A B : World) : Prop := A.heap.size ≤ B.heap.size ∧ ∀ k, k = X ∨ prot k → B.heap[k]? = A.heap[k]?
/-- The contract of an iterator value that lays a row at the heap's end and writes there alone. -/
def SeqRow {α : Type} (F : Fence) (n : Nat) (P : Program) (g : Nat) (lb : Array Value) (encs : α → Array Value) (prot : Nat → Prop) (xs : List α) (w : World) : Prop :=
 ∀ (l : Nat) (J Jx : List α → World → Prop) (W : World), w.heap.size ≤ W.heap.size → (∀ k, k < w.heap.size → W.heap[k]? = w.heap[k]?) →
  (∀ s A B, J s A → KeepTwo A B W.heap.size W.heap.size → J s B) → (∀ s A B, Jx s A → KeepTwo A B W.heap.size W.heap.size → Jx s B) →
  (∀ pre x W1, J pre W1 → pre ++ [x] <+: xs → W.heap.size < W1.heap.size → YieldAt F (n - 1) P l (encs x) W1 fun e W' =>
   (e = .returned (.bool true) ∧ J (pre ++ [x]) W' ∧ RoundKeeps prot W.heap.size W1 W') ∨ (e = .returned (.bool false) ∧ Jx (pre ++ [x]) W')) →
  J [] W →
  CallsIn F n P g (#[.func (.yield l) #[] #[]] ++ lb) W fun e W' => (∃ v, e = .returned v) ∧ (J xs W' ∨ ∃ pre, pre <+: xs ∧ Jx pre W')
/-- How the body of a round may be left. -/
def rowPost {α : Type} (prot : Nat → Prop) (X : Nat) (I : List α → World → Prop) (Ix : Code → List α → World → Prop) (xs : List α) (W : World) : Exit → Act → World → Prop
 | .normal, _, W' => KeepsOthers W W' ∧ RoundKeeps prot X W W' ∧ I xs W'
 | .ret, _, W' => KeepsOthers W W' ∧ Ix .ret xs W'
 | .exit id, _, W' => KeepsOthers W W' ∧ Ix (.exit id) xs W'
 | .goto t, _, W' => KeepsOthers W W' ∧ Ix (.goto t) xs W'
 | .panic _, _, _ => False
 | .outgrown, _, _ => False
theorem keepTwo_alloc (w : World) (o : Obj) (r X : Nat) : KeepTwo w (w.alloc o) r X := ⟨by simp, fun k hk _ _ => Below.heap_alloc w o k hk, rfl, rfl, rfl⟩
theorem keepTwo_put (W : World) (r X : Nat) (o : Obj) : KeepTwo W (W.putObj r o) r X := ⟨by simp, fun k _ h _ => World.putObj_heap_other h, rfl, rfl, rfl⟩
theorem keepTwo_one {A B : World} {X : Nat} (h : KeepTwo A B X X) (r : Nat) : KeepTwo A B r X := ⟨h.1, fun k hk _ h2 => h.2.1 k hk h2 h2, h.2.2⟩
theorem keepTwo_drewN (W : World) (n r X : Nat) : KeepTwo W (W.drewN n) r X := ⟨Nat.le_refl _, fun _ _ _ _ => rfl, rfl, rfl, rfl⟩
theorem keepTwo_trans {A B C : World} {r X : Nat} (h : KeepTwo A B r X) (k : KeepTwo B C r X) : KeepTwo A C r X := ⟨Nat.le_trans h.1 k.1, fun i hi h1 h2 => (k.2.1 i (Nat.lt_of_lt_of_le hi h.1) h1 h2).trans (h.2.1 i hi h1 h2), k.2.2.1.trans h.2.2.1, k.2.2.2.1.trans h.2.2.2.1, k.2.2.2.2.trans h.2.2.2.2⟩
theorem keepTwo_set (W : World) (X i : Nat) (v : Value) : KeepTwo W (W.setCell ⟨X, i, none⟩ v) X X := ⟨by simp, fun k _ h _ => Below.heap_setCell W ⟨X, i, none⟩ v k h, rfl, rfl, rfl⟩
section
variable {F : Fence} {n : Nat} {P : Program}
theorem rangeFunc_row {α : Type} {g : Operand} {ps : Array Tmp} {assign body : Code} {Q : Exit → Act → World → Prop} {a : Act} {w : World}
  (hro : F.round = none) (h1 : 1 ≤ n) {gf : Nat} {lb : Array Value} (hg : a.eval g = .func (.func gf) #[] lb) (hFg : F.fn gf) (eg : ∀ args w, (callFunc gf args).run P w = .ok (.enter gf args) w)
  {encs : α → Array Value} {prot : Nat → Prop} {xs : List α} (hseq : SeqRow F (n - 1) P gf lb encs prot xs w) (hprot : ∀ k, prot k → k < w.heap.size) (hps : ∀ x, (encs x).size = ps.size)
  (I : List α → World → Prop) (Ix : Code → List α → World → Prop)
  (hI : ∀ s A B, I s A → KeepTwo A B (w.heap.size + 1) (w.heap.size + 2) → I s B) (hIx : ∀ c s A B, Ix c s A → KeepTwo A B (w.heap.size + 1) (w.heap.size + 2) → Ix c s B) (h0 : I [] w) (a₁ : α → Act)
  (hassign : ∀ (l : Nat) (x : α) (W : World) (K : Act → World → Prop), K (a₁ x) W →
   assign.wpIn (F.inRound l) (n - 1 - 1) P (Exit.then K (fun _ _ _ => False)) { tmps := (ps.zip (encs x)).foldl (fun t (p, v) => t.setIfInBounds p v) a.tmps, defers := [] } W)
  (hbody : ∀ (l : Nat) (pre : List α) (x : α) (W : World), I pre W → pre ++ [x] <+: xs → w.heap.size + 2 < W.heap.size → body.wpIn (F.inRound l) (n - 1 - 1) P (rowPost prot (w.heap.size + 2) I Ix (pre ++ [x]) W) (a₁ x) W)
  (hdone : ∀ (D : Nat) (W : World), D = w.heap.size → I xs W → W.heap[D]? = some (.deferred (some [])) → Q .normal { a with defers := { target := .collected D, args := #[] } :: a.defers } W)
  (hstop : ∀ (D : Nat) (c : Code) (pre : List α) (W : World), D = w.heap.size → pre <+: xs → Ix c pre W → W.heap[D]? = some (.deferred (some [])) → c.wpIn F n P Q { a with defers := { target := .collected D, args := #[] } :: a.defers } W) :
  (Code.rangeFunc g ps assign body).wpIn F n P Q a w := by
 refine wpIn_rangeFunc ?_
 intro fn hfn
 rw [hro]
 obtain ⟨rec, hrec⟩ : ∃ rec : LoopState → Option Code → Loop, rec = fun st pe => { state := st, pending := pe, fn, tmps := a.tmps, params := ps, assign, body, defers := w.heap.size } := ⟨_, rfl⟩
 obtain ⟨W1, hW1⟩ : ∃ W1, (w.alloc (.deferred (some []))).alloc (.loop (rec .ready none)) = W1 := ⟨_, rfl⟩
 have hs1 : W1.heap.size = w.heap.size + 2 := by rw [← hW1]; simp
 have hL1 : W1.heap[w.heap.size + 1]? = some (.loop (rec .ready none)) := by
  rw [← hW1]; have := World.alloc_heap_new (w.alloc (.deferred (some []))) (.loop (rec .ready none)); rwa [World.size_alloc] at this
 have hK1 : W1.heap[w.heap.size]? = some (.deferred (some [])) := by
  rw [← hW1]; exact (Below.heap_alloc _ _ _ (by simp)).trans (World.alloc_heap_new w _)
 have hI1 : I [] W1 := by rw [← hW1]; exact hI _ _ _ (hI _ _ _ h0 (keepTwo_alloc _ _ _ _)) (keepTwo_alloc _ _ _ _)
 have hb1 : ∀ k, k < w.heap.size → W1.heap[k]? = w.heap[k]? := fun k hk => by
  rw [← hW1]; exact (Below.heap_alloc _ _ k (by simp; omega)).trans (Below.heap_alloc w _ k hk)
 refine ⟨w.heap.size + 1, [{ target := .collected w.heap.size, args := #[] }], W1, { target := .fn (.func gf) lb, args := #[.func (.yield (w.heap.size + 1)) #[] #[]] }, W1, gf,
  #[.func (.yield (w.heap.size + 1)) #[] #[]] ++ lb, W1, ?_, ?_, ?_, ?_, fun _ => h1, ?_⟩
 ·rw [← hW1, hrec]; exact run_enterLoop_outer _ _ _ _ _
 ·simp only [resolve, hg]
  simp [go_sem]
 ·intro f' hf'; simp [Target.leads] at hf'; subst hf'; exact hFg
 ·simp [invoke, go_sem, eg]
 ·have lift : ∀ {A B : World} {i : Nat} {o : Obj}, KeepTwo A B W1.heap.size W1.heap.size → i < W1.heap.size → A.heap[i]? = some o → B.heap[i]? = some o := fun hk hi h => (hk.2.1 _ (Array.getElem?_eq_some_iff.1 h).1 (by omega) (by omega)).trans h
  refine (hseq (w.heap.size + 1)
   (fun pre W => I pre W ∧ W.heap[w.heap.size + 1]? = some (.loop (rec .ready none)) ∧ W.heap[w.heap.size]? = some (.deferred (some [])) ∧ w.heap.size + 2 ≤ W.heap.size)
   (fun pre W => ∃ c, Ix c pre W ∧ W.heap[w.heap.size + 1]? = some (.loop (rec .done (some c))) ∧ W.heap[w.heap.size]? = some (.deferred (some [])))
   W1 (by omega) hb1
   (fun s A B hs hk => ⟨hI s A B hs.1 (by have := keepTwo_one hk (w.heap.size + 1); rwa [hs1] at this), lift hk (by omega) hs.2.1, lift hk (by omega) hs.2.2.1, Nat.le_trans hs.2.2.2 hk.1⟩)
   (fun s A B hs hk => by
    obtain ⟨c, hc, hl, hkk⟩ := hs
    exact ⟨c, hIx c s A B hc (by have := keepTwo_one hk (w.heap.size + 1); rwa [hs1] at this), lift hk (by omega) hl, lift hk (by omega) hkk⟩)
   ?_ ⟨hI1, hL1, hK1, by omega⟩).mono ?_
  ·rintro pre x W ⟨hi, hl, hk, _⟩ hpre hsz
   have hlt : w.heap.size + 1 < W.heap.size := (Array.getElem?_eq_some_iff.1 hl).1
   have hy := run_yield (P := P) (args := encs x) hl (by rw [hrec]; exact hps x)
   rw [hrec] at hy
   refine ⟨fn, _, assign, body, hy, roundIn_of_wpIn hfn (hassign _ x W _ ⟨_, run_beginRound hl (by rw [hrec]), ?_⟩)⟩
   have hl2 : (W.putObj (w.heap.size + 1) (.loop { rec .ready none with state := .busy })).heap[w.heap.size + 1]? = some (.loop { rec .ready none with state := .busy }) := World.putObj_heap_same hlt
   have hk2 : (W.putObj (w.heap.size + 1) (.loop { rec .ready none with state := .busy })).heap[w.heap.size]? = some (.deferred (some [])) := (World.putObj_heap_other (by omega)).trans hk
   refine wpIn_mono (hbody _ pre x _ (hI _ _ _ hi (keepTwo_put _ _ _ _)) hpre (by simp; omega)) ?_
   have fin : ∀ (jump : Option Code) (W3 : World), KeepsOthers (W.putObj (w.heap.size + 1) (.loop { rec .ready none with state := .busy })) W3 →
     (Instr.endRound (w.heap.size + 1) jump).run P W3 = .ok (.bool jump.isNone) (W3.putObj (w.heap.size + 1) (.loop (rec (if jump.isNone then .ready else .done) jump))) ∧
     W3.heap[w.heap.size + 1]? = some (.loop { rec .ready none with state := .busy }) ∧
     (W3.putObj (w.heap.size + 1) (.loop (rec (if jump.isNone then .ready else .done) jump))).heap[w.heap.size + 1]? = some (.loop (rec (if jump.isNone then .ready else .done) jump)) ∧
     (W3.putObj (w.heap.size + 1) (.loop (rec (if jump.isNone then .ready else .done) jump))).heap[w.heap.size]? = some (.deferred (some [])) := fun jump W3 hk3 => by
    have hl3 := hk3.same _ _ hl2 rfl
    have := run_endRound (P := P) jump hl3
    rw [hrec] at this ⊢
    exact ⟨this, by rw [hrec] at hl3; exact hl3, World.putObj_heap_same (Array.getElem?_eq_some_iff.1 hl3).1, (World.putObj_heap_other (by omega)).trans (hk3.same _ _ hk2 rfl)⟩
   rintro e a3 W3 hp
   cases e with
   | normal =>
    obtain ⟨hk3, hkp3, hi3⟩ := hp
    obtain ⟨hr, hl3, hl4, hk4⟩ := fin none W3 hk3
    refine ⟨_, _, hr, .inl ⟨rfl, ⟨hI _ _ _ hi3 (keepTwo_put _ _ _ _), hl4, hk4, ?_⟩, ?_, fun k hk' => ?_⟩⟩
    ·have := hkp3.1
     simp at this ⊢
     omega
    ·have := hkp3.1
     simp at this ⊢
     omega
    ·have hne : k ≠ w.heap.size + 1 := by
      rcases hk' with h | h
      ·omega
      ·have := hprot k h
       omega
     exact (World.putObj_heap_other hne).trans ((hkp3.2 k (by rw [← hs1]; exact hk')).trans (World.putObj_heap_other hne))
   | ret =>
    obtain ⟨hk3, hi3⟩ := hp
    obtain ⟨hr, hl3, hl4, hk4⟩ := fin (some .ret) W3 hk3
    exact ⟨_, _, hr, .inr ⟨rfl, .ret, hIx _ _ _ _ hi3 (keepTwo_put _ _ _ _), hl4, hk4⟩⟩
   | exit id =>
    obtain ⟨hk3, hi3⟩ := hp
    obtain ⟨hr, hl3, hl4, hk4⟩ := fin (some (.exit id)) W3 hk3
    exact ⟨_, _, hr, .inr ⟨rfl, .exit id, hIx _ _ _ _ hi3 (keepTwo_put _ _ _ _), hl4, hk4⟩⟩
   | goto t =>
    obtain ⟨hk3, hi3⟩ := hp
    obtain ⟨hr, hl3, hl4, hk4⟩ := fin (some (.goto t)) W3 hk3
    exact ⟨_, _, hr, .inr ⟨rfl, .goto t, hIx _ _ _ _ hi3 (keepTwo_put _ _ _ _), hl4, hk4⟩⟩
   | panic ch => exact hp.elim
   | outgrown => exact hp.elim
  ·rintro e W2 ⟨⟨v, rfl⟩, (⟨hi, hl, hk, _⟩ | ⟨pre, hSp, c, hi, hl, hk⟩)⟩
   ·exact ⟨none, _, by have := run_endLoop (P := P) hl (by rw [hrec]; simp); rw [hrec] at this; exact this, hdone _ _ rfl (hI _ _ _ hi (keepTwo_put _ _ _ _)) ((World.putObj_heap_other (by omega)).trans hk)⟩
   ·exact ⟨some c, _, by have := run_endLoop (P := P) hl (by rw [hrec]; simp); rw [hrec] at this; exact this, hstop _ c pre _ rfl hSp (hIx c _ _ _ hi (keepTwo_put _ _ _ _)) ((World.putObj_heap_other (by omega)).trans hk)⟩
end
/-- A round's step of the index, from the last axis on. -/
def spotIn (ds ss : List Int) : Nat → List Int → Int → Bool × List Int × Int
 | 0, ix, at_ => (false, ix, at_)
 | j + 1, ix, at_ => if wrap64 (rd ix (j : Int) + 1) < rd ds (j : Int) then (true, ix.set j (wrap64 (rd ix (j : Int) + 1)), wrap64 (at_ + rd ss (j : Int))) else spotIn ds ss j (ix.set j 0) (wrap64 (wrap64 (at_ + rd ss (j : Int)) - wrap64 (rd ss (j : Int) * rd ds (j : Int))))
/-- The places that come, one behind the other. -/
def spotsF (ds ss : List Int) : Nat → List Int → Int → Option (List Int)
 | 0, _, _ => none
 | k + 1, ix, at_ => if (spotIn ds ss ds.length ix at_).1 = true then (spotsF ds ss k (spotIn ds ss ds.length ix at_).2.1 (spotIn ds ss ds.length ix at_).2.2).bind fun t => some (at_ :: t) else some [at_]
theorem spotsF_mono (ds ss : List Int) : ∀ k ix a, LeO (spotsF ds ss k ix a) (spotsF ds ss (k + 1) ix a)
 | 0, _, _ => fun r h => by simp [spotsF] at h
 | k + 1, ix, a => by
  simp only [spotsF]
  exact LeO.ite (LeO.bind (spotsF_mono ds ss k _ _) (fun _ => LeO.refl _)) (LeO.refl _)
theorem spotIn_len (ds ss : List Int) : ∀ j ix a, (spotIn ds ss j ix a).2.1.length = ix.length
 | 0, _, _ => rfl
 | j + 1, ix, a => by
  simp only [spotIn]
  split
  ·simp
  ·rw [spotIn_len]
   simp
end
def impl_shown.f (k : Nat) (l0 : List Int) (l1_0 : List Int) (l1_1 : List Int) (a1_2 : Int) (a1_3 : Int) : Option (List Int × List Int) :=
 if l1_0.length ≤ l1_1.length ∧ l1_0.length ≤ 1000 then (impl_product.f k l1_0).bind fun m => if 0 ≤ m ∧ m ≤ 1000000 then (spotsF l1_0 l1_1 k (List.replicate l1_0.length 0) a1_2).bind fun xs => if xs.length ≤ 1000000 ∧ (∀ p ∈ xs, 0 ≤ p ∧ p < l0.length) then some (l1_0, xs.map (rd l0)) else none else none else none
theorem impl_shown.mono : ∀ a0 b0 b1 b2 b3 k, LeO (impl_shown.f k a0 b0 b1 b2 b3) (impl_shown.f (k + 1) a0 b0 b1 b2 b3) := by
 intro a0 b0 b1 b2 b3 k
 unfold impl_shown.f
 repeat' first
   | (with_reducible exact impl_product.mono _ _)
   | (with_reducible exact spotsF_mono _ _ _ _ _)
   | (with_reducible exact LeO.refl _)
   | (with_reducible exact LeO.none _)
   | (with_reducible refine LeO.ite ?_ ?_)
   | (with_reducible refine LeO.bind ?_ (fun _ => ?_))
section
attribute [local go_sem] Oper.semAt_some
attribute [local go_sem] Oper.semAt_some
set_option maxHeartbeats 4000000 in
set_option maxRecDepth 100000 in
theorem spots1_in (n : Nat) (hn : 1 ≤ n) (l q1 q2 q3 : Nat) (A0 A1 : Option Addr) (c0 c1 k : Nat) (ds ss xs : List Int) (off : Int) (prot : Nat → Prop) (wT : World)
  (hr0 : Kd.C (Kd.int .i64) wT A0 ds.length ds) (hr1 : Kd.C (Kd.int .i64) wT A1 ss.length ss) (hl : ds.length ≤ ss.length) (hl2 : ds.length ≤ 1000)
  (hprot : ∀ g, g < wT.heap.size ∨ g = q1 ∨ g = q2 ∨ g = q3 → prot g) (hxs : spotsF ds ss k (List.replicate ds.length 0) off = some xs)
  (J Jx : List Int → World → Prop) (W : World) (hW : ∀ g, g < wT.heap.size → W.heap[g]? = wT.heap[g]?) (hlt : ∀ g, prot g → g < W.heap.size)
  (kk1 : W.heap[q1]? = some (.cells #[.slice A0 ds.length c0] 22 (0, 0))) (kk2 : W.heap[q2]? = some (.cells #[.int .i64 off] 3 (0, 0))) (kk3 : W.heap[q3]? = some (.cells #[.slice A1 ss.length c1] 22 (0, 0)))
  (hJ : ∀ s A B, J s A → KeepTwo A B W.heap.size W.heap.size → J s B) (hJx : ∀ s A B, Jx s A → KeepTwo A B W.heap.size W.heap.size → Jx s B)
  (hY : ∀ pre x W1, J pre W1 → pre ++ [x] <+: xs → W.heap.size < W1.heap.size → YieldAt Fence.wide (n - 1) Try.prog l #[.int .i64 x] W1 fun e W' =>
   (e = .returned (.bool true) ∧ J (pre ++ [x]) W' ∧ RoundKeeps prot W.heap.size W1 W') ∨ (e = .returned (.bool false) ∧ Jx (pre ++ [x]) W'))
  (h0 : J [] W) :
  CallsIn Fence.wide n Try.prog 97 #[.func (.yield l) #[] #[], .pointer (some ⟨q1, 0, none⟩), .pointer (some ⟨q2, 0, none⟩), .pointer (some ⟨q3, 0, none⟩)] W fun e W' => (∃ v, e = .returned v) ∧ (J xs W' ∨ ∃ pre, pre <+: xs ∧ Jx pre W') := by
 have k1 : W.cell? ⟨q1, 0, none⟩ = some (.slice A0 ds.length c0) := (blk_cell kk1 0).trans rfl
 have k2 : W.cell? ⟨q2, 0, none⟩ = some (.int .i64 off) := (blk_cell kk2 0).trans rfl
 have hmk := print_make_int (P := Try.prog) 22 3 (.int .i64 0) 8 Try.underlying22 info3 rfl (by decide) (ds.length : Int) (by omega) (by omega)
 have hown := own_made' W W.heap.size 3 .i64 ds.length (Nat.le_refl _) (by omega)
 have hl1 : W.heap.size + 1 = (W.alloc (.cells (madeCells #[.int .i64 0] ds.length) 3)).heap.size := by simp
 obtain ⟨W1, hW1⟩ : ∃ W1, W1 = W.alloc (.cells (madeCells #[.int .i64 0] ds.length) 3) := ⟨_, rfl⟩
 rw [Int.toNat_natCast] at hmk
 have hmk1 := hmk W
 rw [← hW1] at hmk1 hown hl1
 have blk1 : ∀ (g : Nat) (o : Obj), W.heap[g]? = some o → W1.heap[g]? = some o := fun g o h => by rw [hW1]; exact blk_alloc h _
 have k2' : W1.cell? ⟨q2, 0, none⟩ = some (.int .i64 off) := (blk_cell (blk1 _ _ kk2) 0).trans rfl
 have hR : Kd.R (Kd.int .i64) 3 W1 W.heap.size (fun g => g = W.heap.size) (.slice (some ⟨W.heap.size, 0, none⟩) ds.length ds.length) (List.replicate ds.length 0) :=
  Kd.R_of_own (by exact hown) (fun g hg => by simpa [Value.ownBlock] using hg.symm)
 have hKT : KeepTwo W W1 W.heap.size W.heap.size := by rw [hW1]; exact keepTwo_alloc _ _ _ _
 have hJ1 := hJ _ _ _ h0 hKT
 clear hmk hown h0 hW1
 have HR0 := Aside0.mk hr0
 have HR1 := Aside0.mk hr1
 have HL := Aside0.mk (And.intro hl hl2)
 have HX := Aside0.mk hxs
 have HJ := Aside0.mk hJ
 have HJX := Aside0.mk hJx
 have HY := Aside0.mk hY
 have HRI := Aside0.mk hR
 have HJ1 := Aside0.mk hJ1
 have HP := Aside0.mk (And.intro hprot hlt)
 have HW := Aside0.mk hW
 have KK := Aside0.mk (And.intro (blk1 _ _ kk1) (And.intro (blk1 _ _ kk2) (blk1 _ _ kk3)))
 have KW := Aside0.mk (show (∀ g, prot g → W1.heap[g]? = W.heap[g]?) from fun g hg => hKT.2.1 g (hlt g hg) (Nat.ne_of_lt (hlt g hg)) (Nat.ne_of_lt (hlt g hg)))
 have HS1 := Aside0.mk hl1
 clear hr0 hr1 hl hl2 hxs hJ hJx hY hR hJ1 hprot hlt hW kk1 kk2 kk3 blk1 hKT hl1
 refine callsIn_of_wp Try.func97 rfl trivial ?_ rfl
 simp only [Try.ntmps97, List.size_toArray, List.length_cons, List.length_nil, Nat.reduceAdd, Nat.reduceSub, Array.replicate_succ, Array.replicate_zero, List.push_toArray, List.append_toArray, List.nil_append, List.cons_append]
 gi_wp2
 clear k1 k2 k2' hmk1
 gi_loopg [6] k (fun kq va wr => ∃ (pre ix ys : List Int) (a : Int), va = .int .i64 a ∧ Aside0 (spotsF ds ss kq ix a = some ys ∧ pre ++ ys = xs ∧ ix.length = ds.length) ∧ Aside0 (Kd.R (Kd.int .i64) 3 wr W.heap.size (fun g => g = W.heap.size) (.slice (some ⟨W.heap.size, 0, none⟩) ds.length ds.length) ix) ∧ Aside0 (∀ g, prot g → wr.heap[g]? = W1.heap[g]?) ∧ Aside0 (J pre wr ∧ W.heap.size < wr.heap.size))
 case atStart => exact ⟨[], List.replicate ds.length 0, xs, off, rfl, ⟨HX.out, rfl, by simp⟩, HRI, ⟨fun g _ => rfl⟩, ⟨HJ1.out, by have := HS1.out; omega⟩⟩
 case round =>
  clear HX HRI HJ1
  obtain ⟨pre, ix, ys, a, rfl, HS, HO, HG, HJJ⟩ := hrel
  cases gk with
  | zero => exact absurd HS.out.1 (by simp [spotsF])
  | succ kq =>
   obtain ⟨⟨b, ix', a'⟩, hst⟩ : ∃ r, r = spotIn ds ss ds.length ix a := ⟨_, rfl⟩
   obtain ⟨zs, hzs⟩ : ∃ zs, ys = a :: zs := by
    have h := HS.out.1
    simp only [spotsF] at h
    split at h
    ·obtain ⟨t, _, h2⟩ := Option.bind_eq_some_iff.mp h
     exact ⟨t, (Option.some.inj h2).symm⟩
    ·exact ⟨[], (Option.some.inj h).symm⟩
   have hpx : pre ++ [a] <+: xs := ⟨zs, by have := HS.out.2.1; rw [hzs] at this; simpa using this⟩
   obtain ⟨fn, tmps, assign, body, hy, hR⟩ := HY.out pre a wr HJJ.out.1 hpx HJJ.out.2
   have HST := Aside0.mk hst
   have HPX := Aside0.mk hpx
   have HZ := Aside0.mk hzs
   clear hst hpx hzs
   gi_wp2
   refine hR.mono ?_
   rintro e W3 (⟨rfl, hJ3, hk3⟩ | ⟨rfl, hJx3⟩)
   ·have HJ3 := Aside0.mk (And.intro hJ3 (Nat.lt_of_lt_of_le HJJ.out.2 hk3.1))
    have HO3 := Aside0.mk (Kd.R_step HO.out (fun g hg _ => hk3.2 g (.inl hg)))
    have HG3 := Aside0.mk (show (∀ g, prot g → W3.heap[g]? = W1.heap[g]?) from fun g hg => (hk3.2 g (.inr hg)).trans (HG.out g hg))
    have k1 : W3.cell? ⟨q1, 0, none⟩ = some (.slice A0 ds.length c0) := (blk_cell ((HG3.out q1 (HP.out.1 q1 (.inr (.inl rfl)))).trans KK.out.1) 0).trans rfl
    clear hJ3 hk3 hR hy
    have HB : Aside0 ((b = true → spotsF ds ss kq ix' a' = some zs ∧ ix'.length = ds.length) ∧ (b = false → zs = [])) := ⟨by
     have h := HS.out.1
     have hl := spotIn_len ds ss ds.length ix a
     rw [HZ.out] at h
     simp only [spotsF] at h
     rw [← HST.out] at h hl
     cases b with
     | true =>
      rw [if_pos rfl] at h
      obtain ⟨t, h1, h2⟩ := Option.bind_eq_some_iff.mp h
      have h3 : zs = t := by simpa using (Option.some.inj h2).symm
      exact ⟨fun _ => ⟨by rw [h3]; exact h1, by rw [← HS.out.2.2]; exact hl⟩, fun z => (by cases z)⟩
     | false =>
      rw [if_neg (by simp)] at h
      exact ⟨fun z => (by cases z), fun _ => by simpa using (Option.some.inj h).symm⟩⟩
    have hwn : wrap64 ((ds.length : Int) - 1) = (ds.length : Int) - 1 := by have := HL.out; unfold wrap64; omega
    gi_wp2
    clear k1
    have HWN := Aside0.mk hwn
    clear hwn
    gi_loopg [6, 7] ds.length (fun kj va vi wj => ∃ (jx : List Int) (c i : Int), va = .int .i64 c ∧ vi = .int .i64 i ∧ Aside0 (0 ≤ i + 1 ∧ (i + 1).toNat = kj ∧ kj ≤ ds.length) ∧ Aside0 (spotIn ds ss (i + 1).toNat jx c = (b, ix', a') ∧ jx.length = ds.length) ∧ Aside0 (Kd.R (Kd.int .i64) 3 wj W.heap.size (fun g => g = W.heap.size) (.slice (some ⟨W.heap.size, 0, none⟩) ds.length ds.length) jx) ∧ Aside0 (∀ g, prot g → wj.heap[g]? = W1.heap[g]?) ∧ Aside0 (J (pre ++ [a]) wj ∧ W.heap.size < wj.heap.size))
    case atStart =>
     exact ⟨ix, a, (ds.length : Int) - 1, rfl, (by rw [HWN.out]), ⟨by omega, by omega, by omega⟩, ⟨by rw [show ((ds.length : Int) - 1 + 1).toNat = ds.length by omega]; exact HST.out.symm, HS.out.2.2⟩, HO3, HG3, HJ3⟩
    case round =>
     clear HO3 HG3 HJ3
     obtain ⟨jx, c, i, rfl, rfl, HI, HIN, HOJ, HGJ, HJJ'⟩ := hrel
     by_cases hi : 0 ≤ i
     ·have i1 : i < (ds.length : Int) := by have := HI.out; omega
      have hib : decide (0 ≤ i) = true := decide_eq_true hi
      have hib2 : decide (i < 0) = false := decide_eq_false (by omega)
      have hsp := HIN.out.1
      rw [show (i + 1).toNat = i.toNat + 1 by omega] at hsp
      simp only [spotIn] at hsp
      rw [Int.toNat_of_nonneg hi] at hsp
      obtain ⟨ad0, e0, y0T⟩ := Kd.at_int HR0.out i hi i1
      cases e0
      obtain ⟨ad1, e1, y1T⟩ := Kd.at_int HR1.out i hi (by have := HL.out; omega)
      cases e1
      have HYT := Aside0.mk (And.intro y0T y1T)
      clear y0T y1T
      obtain ⟨x0', f0⟩ := Kd.R_celln 0 HOJ.out i hi i1
      have x0 : wr.cell? ⟨W.heap.size, i.toNat, none⟩ = some (.int .i64 (rd jx i)) := x0'
      clear x0'
      have i2 : i < (ss.length : Int) := by have := HL.out; omega
      have hw1 : wrap64 (i - 1) = i - 1 := by have := HL.out; unfold wrap64; omega
      have HI' := Aside0.mk (And.intro hi (And.intro i1 hw1))
      -- what is known behind a store into the row of the iterator
      have put5 : Aside0 (∀ (wq : World) (jq : List Int) (v : Int), Kd.R (Kd.int .i64) 3 wq W.heap.size (fun g => g = W.heap.size) (.slice (some ⟨W.heap.size, 0, none⟩) ds.length ds.length) jq → (∀ g, prot g → wq.heap[g]? = W1.heap[g]?) → J (pre ++ [a]) wq ∧ W.heap.size < wq.heap.size →
        ∀ W5, wq.setCell ⟨W.heap.size, i.toNat, none⟩ (.int .i64 v) = W5 → Kd.R (Kd.int .i64) 3 W5 W.heap.size (fun g => g = W.heap.size) (.slice (some ⟨W.heap.size, 0, none⟩) ds.length ds.length) (jq.set i.toNat v) ∧ (∀ g, prot g → W5.heap[g]? = W1.heap[g]?) ∧ J (pre ++ [a]) W5 ∧ W.heap.size < W5.heap.size) := ⟨by
       rintro wq jq v h1 h2 h3 W5 rfl
       exact ⟨Kd.R_putn h1 i v, fun g hg => (Below.heap_setCell wq ⟨W.heap.size, i.toNat, none⟩ _ g (Nat.ne_of_lt (HP.out.2 g hg))).trans (h2 g hg), HJ.out _ _ _ h3.1 (keepTwo_set _ _ _ _), by simp; exact h3.2⟩⟩
      have drew5 : Aside0 (∀ (wq : World) (m : Nat), (J (pre ++ [a]) wq ∧ W.heap.size < wq.heap.size) → J (pre ++ [a]) (wq.drewN m) ∧ W.heap.size < (wq.drewN m).heap.size) := ⟨fun wq m h => ⟨HJ.out _ _ _ h.1 (keepTwo_drewN _ _ _ _), h.2⟩⟩
      have lift : Aside0 (∀ (wq : World) (ad : Addr) (v : Value), (∀ g, prot g → wq.heap[g]? = W1.heap[g]?) → wT.cell? ad = some v → wq.cell? ad = some v) := ⟨fun wq ad v hq h => by
       have hb := World.block_lt_of_cell? wT _ h
       exact (World.cell?_of_block ((hq ad.block (HP.out.1 ad.block (.inl hb))).trans ((KW.out ad.block (HP.out.1 ad.block (.inl hb))).trans (HW.out ad.block hb)))).trans h⟩
      by_cases hc : wrap64 (rd jx i + 1) < rd ds i
      ·rw [if_pos hc] at hsp
       simp only [Prod.mk.injEq] at hsp
       have HSP := Aside0.mk hsp
       clear hsp
       have hcb : decide (wrap64 (rd jx i + 1) < rd ds i) = true := decide_eq_true hc
       gi_upto_region 7 with fail
       generalize hW5 : World.setCell _ _ _ = W5
       obtain ⟨HO5, HG5, HJ5⟩ := put5.out wr jx _ HOJ.out HGJ.out HJJ'.out W5 hW5
       have k1 : W5.cell? ⟨q1, 0, none⟩ = some (.slice (some ad0) ds.length c0) := (blk_cell ((HG5 q1 (HP.out.1 q1 (.inr (.inl rfl)))).trans KK.out.1) 0).trans rfl
       have k3 : W5.cell? ⟨q3, 0, none⟩ = some (.slice (some ad1) ss.length c1) := (blk_cell ((HG5 q3 (HP.out.1 q3 (.inr (.inr (.inr rfl))))).trans KK.out.2.2) 0).trans rfl
       have y0 := lift.out W5 _ _ HG5 HYT.out.1
       have y1 := lift.out W5 _ _ HG5 HYT.out.2
       obtain ⟨x5, f5⟩ := Kd.R_celln 0 HO5 i hi i1
       have e5 : rdOf 0 (jx.set i.toNat (wrap64 (rd jx i + 1))) i = wrap64 (rd jx i + 1) := by
        unfold rdOf
        rw [List.getD_eq_getElem?_getD, List.getElem?_set_self (by have := HIN.out.2; omega), Option.getD_some]
       rw [e5] at x5
       have HO5' := Aside0.mk HO5
       have HG5' := Aside0.mk HG5
       have HJ5' := Aside0.mk HJ5
       clear hW5 HO5 HG5 HJ5 x0 f0 e5
       gi_wp2
       gi_quiet (fail)
       gi_wp2
       gi_roundg kq
       case measure => omega
       case rel =>
        obtain ⟨e1, e2, e3⟩ := HSP.out
        have hb := HB.out.1 e1.symm
        refine ⟨pre ++ [a], ix', zs, a', (by rw [e3]), ⟨hb.1, ?_, hb.2⟩, ⟨?_⟩, ⟨HG5'.out⟩, ⟨?_⟩⟩
        ·have := HS.out.2.1
         rw [HZ.out] at this
         simpa using this
        ·rw [← e2]
         exact Kd.R_drewN HO5'.out _
        ·exact drew5.out _ _ HJ5'.out
      ·rw [if_neg hc] at hsp
       have HSP := Aside0.mk hsp
       clear hsp
       have hcb : decide (wrap64 (rd jx i + 1) < rd ds i) = false := decide_eq_false hc
       gi_upto_region 7 with fail
       generalize hW5 : World.setCell _ _ _ = W5
       obtain ⟨HO5, HG5, HJ5⟩ := put5.out wr jx _ HOJ.out HGJ.out HJJ'.out W5 hW5
       have k1 : W5.cell? ⟨q1, 0, none⟩ = some (.slice (some ad0) ds.length c0) := (blk_cell ((HG5 q1 (HP.out.1 q1 (.inr (.inl rfl)))).trans KK.out.1) 0).trans rfl
       have k3 : W5.cell? ⟨q3, 0, none⟩ = some (.slice (some ad1) ss.length c1) := (blk_cell ((HG5 q3 (HP.out.1 q3 (.inr (.inr (.inr rfl))))).trans KK.out.2.2) 0).trans rfl
       have y0 := lift.out W5 _ _ HG5 HYT.out.1
       have y1 := lift.out W5 _ _ HG5 HYT.out.2
       obtain ⟨x5, f5⟩ := Kd.R_celln 0 HO5 i hi i1
       have e5 : rdOf 0 (jx.set i.toNat (wrap64 (rd jx i + 1))) i = wrap64 (rd jx i + 1) := by
        unfold rdOf
        rw [List.getD_eq_getElem?_getD, List.getElem?_set_self (by have := HIN.out.2; omega), Option.getD_some]
       rw [e5] at x5
       have HO5' := Aside0.mk HO5
       have HG5' := Aside0.mk HG5
       have HJ5' := Aside0.mk HJ5
       clear hW5 HO5 HG5 HJ5 x0 f0 e5
       gi_wp2
       gi_quiet (fail)
       gi_wp2
       gi_quiet (fail)
       gi_wp2
       have hkj : (i - 1 + 1).toNat = i.toNat := by omega
       gi_roundg i.toNat
       case measure => have := HI.out; omega
       case rel =>
        generalize hW6 : World.setCell _ _ _ = W6
        obtain ⟨HO6, HG6, HJ6⟩ := put5.out (W5.drewN _) _ _ (Kd.R_drewN HO5'.out _) HG5'.out (drew5.out _ _ HJ5'.out) W6 hW6
        rw [List.set_set] at HO6
        refine ⟨jx.set i.toNat 0, _, i - 1, rfl, (by rw [HI'.out.2.2]), ⟨by omega, hkj, by have := HI.out; omega⟩, ⟨by rw [hkj]; exact HSP.out, by rw [List.length_set]; exact HIN.out.2⟩, ⟨HO6⟩, ⟨HG6⟩, ⟨HJ6⟩⟩
     ·have hi1 : i = -1 := by have := HI.out; omega
      subst hi1
      have hsp := HIN.out.1
      simp only [show ((-1 : Int) + 1).toNat = 0 from rfl, spotIn, Prod.mk.injEq] at hsp
      obtain ⟨rfl, rfl, rfl⟩ := hsp
      have HZ0 := HB.out.2 rfl
      gi_wp2
      refine bodyPost_ret (results_none rfl _ _ _) rfl ?_
      refine ⟨⟨_, rfl⟩, .inl ?_⟩
      have h := HS.out.2.1
      rw [HZ.out, HZ0] at h
      rw [← h]
      exact HJJ'.out.1
   ·clear hR hy
    gi_wp2
    refine bodyPost_ret (results_none rfl _ _ _) rfl ?_
    exact ⟨⟨_, rfl⟩, .inr ⟨pre ++ [a], HPX.out, hJx3⟩⟩
section
variable {F : Fence} {n : Nat} {P : Program} {ops : Array Oper} {rest : List Oper} {o : Oper} {a : Act} {Q : Exit → Act → World → Prop} {W : World}
/-- append(v, p) in a fence, over a row of one's own; the goal's world is that in which the literal of one lies. -/
theorem R_append_in (d : Kd Int) (hd : d = Kd.int .i64) (base : Nat) (hgd : o.guard = none) (s x : Operand) (t e : TypeId)
  (ho : o.op = .call { callee := .builtin .append, args := #[s, x], argTypes := #[t, t] })
  (ht : P.underlying t = some (.slice e)) (hinfo : (P.info? e).map (fun i => (i.zero, i.size, i.bytes)) = some (some (.int .i64 0), 1, 8))
  (v : Value) (xs : List Int) (p : Int) (ok : Nat → Prop) (hs : a.eval s = v) (hx : a.eval x = .slice (some ⟨W.heap.size, 0, none⟩) 1 1) (hfresh : ∀ k, W.heap.size ≤ k → ok k)
  (HO : (Kd.int .i64).R e W base ok v xs) (hbase : base ≤ W.heap.size) (hl : (xs.length + 1) * 8 ≤ 140737488355328)
  (h : ∀ v1 w1, (Kd.int .i64).R e w1 base ok v1 (xs ++ [p]) → W.grownBy w1 v.ownBlock → wpListIn F n P ops Q rest (a.put o.dst v1) w1) :
  wpListIn F n P ops Q (o :: rest) a (W.alloc (.cells #[.int .i64 p] e)) := by
 obtain ⟨h0, inner, hown, hr⟩ := HO
 obtain ⟨i0, hi, hz0, hz1, hz2⟩ := info_parts hinfo
 refine wpListIn_plain hgd fun K hK' => ?_
 obtain ⟨v1, w1, hrun, r1, r2, _, r4⟩ := run_append_own_at (P := P) (w := W.alloc (.cells #[.int .i64 p] e)) base t o.type e i0 (.int .i64 0) 1 8 ht hi hz0 hz1 hz2 rfl (by decide) v xs.length inner (hown.alloc _) ⟨W.heap.size, 0, none⟩ 1 1 [.int .i64 p] rfl
  (by simpa using World.news_of_block (cs := #[Value.int .i64 p]) (t := e) (fr := (0, 0)) (heap_alloc_new W (.cells #[.int .i64 p] e))) (by simp [Value.oneCell']) (by simp only [maxLen]; omega) hl (by simp; omega)
 have hg2 : W.grownBy w1 v.ownBlock := World.grownBy.trans (World.grownBy_alloc W _ _) r2
 have hat : v1.ownBlock = v.ownBlock ∨ ∃ b, v1.ownBlock = some b ∧ W.heap.size ≤ b := by
  rcases r4 with h | h
  ·exact .inl h
  ·exact .inr ⟨_, h, by simp⟩
 have hR := Kd.R_appended (d := Kd.int .i64) (okp := fun _ => False) (p := p) (cs := [.int .i64 p]) h0 hr (show [Value.int .i64 p] = [Value.int .i64 p] from rfl) (fun _ hk => hk.elim) hfresh r1 hg2 hat
 unfold Oper.wpIn
 refine ⟨?_, ?_⟩
 ·simp [Oper.about, ho, resolve, Target.leads, Sem.run_pure]
 ·rw [Oper.semAt_plain F _ _ (by rw [ho]; intro c hc'; cases hc')]
  simp [execOp, ho, resolve, invoke, builtin, hs, hx, hrun, Result.andThen]
  exact hK' _ _ (h v1 w1 hR hg2)
end
set_option maxHeartbeats 2000000 in
set_option maxRecDepth 100000 in
/-- spots boxes what it was told and hands the iterator back. -/
theorem spots_in (n : Nat) (u v : Value) (off : Int) (w : World) (A0 A1 : Option Addr) (m0 c0 m1 c1 : Nat) :
  CallsIn Fence.wide n Try.prog 61 #[.slice A0 m0 c0, .slice A1 m1 c1, .int .i64 off] w fun e w' => e = .returned (.func (.func 97) #[] #[.pointer (some ⟨w.heap.size, 0, none⟩), .pointer (some ⟨w.heap.size + 2, 0, none⟩), .pointer (some ⟨w.heap.size + 1, 0, none⟩)]) ∧
   w' = ((w.alloc (.cells #[.slice A0 m0 c0] 22)).alloc (.cells #[.slice A1 m1 c1] 22)).alloc (.cells #[.int .i64 off] 3) := by
 have hmf : ∀ (fn : Fn) (first cap : Array Value) (w : World), (Instr.makeFunc fn first cap).run Try.prog w = .ok (.func fn first cap) w := fun _ _ _ _ => rfl
 refine callsIn_of_wp Try.func61 rfl trivial ?_ rfl
 simp only [Try.ntmps61, List.size_toArray, List.length_cons, List.length_nil, Nat.reduceAdd, Nat.reduceSub, Array.replicate_succ, Array.replicate_zero, List.push_toArray, List.append_toArray, List.nil_append, List.cons_append]
 gi_wp2
 go_ret
 exact ⟨rfl, rfl⟩
theorem blk_alloc3 (w : World) (a b c : Obj) : (((w.alloc a).alloc b).alloc c).heap[w.heap.size]? = some a ∧ (((w.alloc a).alloc b).alloc c).heap[w.heap.size + 1]? = some b ∧ (((w.alloc a).alloc b).alloc c).heap[w.heap.size + 2]? = some c := by
 refine ⟨blk_alloc (blk_alloc (heap_alloc_new w a) _) _, ?_, ?_⟩
 ·have := blk_alloc (heap_alloc_new (w.alloc a) b) c
  rwa [World.size_alloc] at this
 ·have := heap_alloc_new ((w.alloc a).alloc b) c
  rwa [World.size_alloc, World.size_alloc] at this
/-- The iterator that spots hands back has its contract. -/
theorem spots_seq (n : Nat) (hn : 1 ≤ n) (A0 A1 : Option Addr) (c0 c1 k : Nat) (ds ss xs : List Int) (off : Int) (wT w : World)
  (hr0 : Kd.C (Kd.int .i64) wT A0 ds.length ds) (hr1 : Kd.C (Kd.int .i64) wT A1 ss.length ss) (hl : ds.length ≤ ss.length) (hl2 : ds.length ≤ 1000) (hw : wT.heap.size ≤ w.heap.size) (hW : ∀ g, g < wT.heap.size → w.heap[g]? = wT.heap[g]?)
  (hxs : spotsF ds ss k (List.replicate ds.length 0) off = some xs) :
  SeqRow Fence.wide n Try.prog 97 #[.pointer (some ⟨w.heap.size, 0, none⟩), .pointer (some ⟨w.heap.size + 2, 0, none⟩), .pointer (some ⟨w.heap.size + 1, 0, none⟩)] (fun x : Int => #[.int .i64 x]) (fun g => g < wT.heap.size ∨ g = w.heap.size ∨ g = w.heap.size + 1 ∨ g = w.heap.size + 2) xs
   (((w.alloc (.cells #[.slice A0 ds.length c0] 22)).alloc (.cells #[.slice A1 ss.length c1] 22)).alloc (.cells #[.int .i64 off] 3)) := by
 intro l J Jx W hs hb hJ hJx hY h0
 obtain ⟨b0, b1, b2⟩ := blk_alloc3 w (.cells #[.slice A0 ds.length c0] 22) (.cells #[.slice A1 ss.length c1] 22) (.cells #[.int .i64 off] 3)
 simp only [World.size_alloc] at hs hb
 refine spots1_in n hn l w.heap.size (w.heap.size + 2) (w.heap.size + 1) A0 A1 c0 c1 k ds ss xs off (fun g => g < wT.heap.size ∨ g = w.heap.size ∨ g = w.heap.size + 1 ∨ g = w.heap.size + 2) wT hr0 hr1 hl hl2 ?_ hxs J Jx W ?_ ?_ ?_ ?_ ?_ hJ hJx hY h0
 ·intro g hg
  omega
 ·intro g hg
  rw [hb g (by omega), ← hW g hg]
  exact (Below.heap_alloc _ _ g (by simp; omega)).trans ((Below.heap_alloc _ _ g (by simp; omega)).trans (Below.heap_alloc _ _ g (by omega)))
 ·intro g hg
  omega
 ·exact (hb _ (by omega)).trans b0
 ·exact (hb _ (by omega)).trans b2
 ·exact (hb _ (by omega)).trans b1
section
attribute [local go_sem] Oper.semAt_some
/-- What an append hands back and leaves, as words (for a walk that must name them ahead of the run). -/
noncomputable def appV (P : Program) (t e : TypeId) (v s : Value) (W : World) : Value := match (Builtin.append_ #[t, t] e #[v, s]).run P W with | .ok u _ => u | _ => undef
noncomputable def appW (P : Program) (t e : TypeId) (v s : Value) (W : World) : World := match (Builtin.append_ #[t, t] e #[v, s]).run P W with | .ok _ w => w | _ => W
def AppOk (P : Program) (t e : TypeId) (v s : Value) (W : World) : Prop := (Builtin.append_ #[t, t] e #[v, s]).run P W = .ok (appV P t e v s W) (appW P t e v s W)
theorem appOk_of {P : Program} {t e : TypeId} {v s v1 : Value} {W w1 : World} (h : (Builtin.append_ #[t, t] e #[v, s]).run P W = .ok v1 w1) : AppOk P t e v s W ∧ appV P t e v s W = v1 ∧ appW P t e v s W = w1 := by
 unfold AppOk appV appW
 rw [h]
 exact ⟨rfl, rfl, rfl⟩
/-- The builtin under a name that the walk does not lay open. -/
def appH (ats : Array TypeId) (ty : TypeId) (args : Array Value) : Sem Value := Builtin.append_ ats ty args
theorem appH_of {ats : Array TypeId} {ty : TypeId} {cs : Array Bool} {args : Array Value} : builtin .append ats ty cs args = (do pure (.value (← appH ats ty args))) := rfl
theorem app_step (P : Program) (t e : TypeId) (v s : Value) (W : World) (h : AppOk P t e v s W) : (appH #[t, t] e #[v, s]).run P W = .ok (appV P t e v s W) (appW P t e v s W) := h
/-- append(v, p) over a row of one's own, behind a draw: the run. -/
theorem append_drew {P : Program} {W : World} (base : Nat) (t e ty : TypeId)
  (ht : P.underlying t = some (.slice e)) (hinfo : (P.info? e).map (fun i => (i.zero, i.size, i.bytes)) = some (some (.int .i64 0), 1, 8))
  (v : Value) (xs : List Int) (p : Int) (ok : Nat → Prop) (hfresh : ∀ k, W.heap.size ≤ k → ok k)
  (HO : (Kd.int .i64).R e W base ok v xs) (hbase : base ≤ W.heap.size) (hl : (xs.length + 1) * 8 ≤ 140737488355328) :
  ∃ v1 w1, (Builtin.append_ #[t, t] ty #[v, .slice (some ⟨W.heap.size, 0, none⟩) 1 1]).run P (W.alloc (.cells #[.int .i64 p] e)).drew = .ok v1 w1 ∧ (Kd.int .i64).R e w1 base ok v1 (xs ++ [p]) ∧ W.grownBy w1 v.ownBlock := by
 obtain ⟨h0, inner, hown, hr⟩ := HO
 obtain ⟨i0, hi, hz0, hz1, hz2⟩ := info_parts hinfo
 obtain ⟨v1, w1, hrun, r1, r2, _, r4⟩ := run_append_own_at (P := P) (w := (W.alloc (.cells #[.int .i64 p] e)).drew) base t ty e i0 (.int .i64 0) 1 8 ht hi hz0 hz1 hz2 rfl (by decide) v xs.length inner (hown.alloc _).drew ⟨W.heap.size, 0, none⟩ 1 1 [.int .i64 p] rfl
  (by simpa using World.news_of_block (cs := #[Value.int .i64 p]) (t := e) (fr := (0, 0)) (heap_alloc_new W (.cells #[.int .i64 p] e))) (by simp [Value.oneCell']) (by simp only [maxLen]; omega) hl (by show base ≤ (W.alloc _).heap.size; simp; omega)
 have hg1 : W.grownBy (W.alloc (.cells #[.int .i64 p] e)).drew v.ownBlock := by
  have h := World.grownBy_alloc W (.cells #[.int .i64 p] e) v.ownBlock
  exact ⟨h.os, h.tape, h.output, h.size, h.block⟩
 have hg2 : W.grownBy w1 v.ownBlock := World.grownBy.trans hg1 r2
 have hat : v1.ownBlock = v.ownBlock ∨ ∃ b, v1.ownBlock = some b ∧ W.heap.size ≤ b := by
  rcases r4 with h | h
  ·exact .inl h
  ·exact .inr ⟨_, h, by show W.heap.size ≤ (W.alloc _).heap.size; simp⟩
 exact ⟨v1, w1, hrun, Kd.R_appended (d := Kd.int .i64) (okp := fun _ => False) (p := p) (cs := [.int .i64 p]) h0 hr (show [Value.int .i64 p] = [Value.int .i64 p] from rfl) (fun _ hk => hk.elim) hfresh r1 hg2 hat, hg2⟩
attribute [local go_sem ↓] app_step
attribute [local go_sem ↓ high] appH_of
set_option maxHeartbeats 4000000 in
set_option maxRecDepth 100000 in
theorem shown_body (n l H g s : Nat) (hn : 1 ≤ n) (A2 : Option Addr) (c2 : Nat) (dt pre : List Int) (x : Int) (v0 v : Value) (W : World) (Q : Exit → Act → World → Prop) (t0 t1 t3 t4 t7 t8 t9 t10 t11 t12 t13 t14 t15 t16 t17 t18 t19 t20 t21 t22 t23 t24 t25 t26 t27 t28 t29 t30 t31 t32 : Value)
  (hd : W.heap[H]? = some (.cells #[.slice A2 dt.length c2] 22 (0, 0))) (hr : Kd.C (Kd.int .i64) W A2 dt.length dt) (hx0 : 0 ≤ x) (hx1 : x < dt.length) (hpl : pre.length ≤ 1000000)
  (hb : W.heap[g]? = some (.cells #[v0, v] 26 (0, 0))) (ok : Nat → Prop) (hfresh : ∀ k, W.heap.size ≤ k → ok k) (hR : Kd.R (Kd.int .i64) 3 W s ok v pre) (hs : s ≤ W.heap.size) (hne : v.ownBlock ≠ some g)
  (hQ : ∀ (a' : Act) (v1 : Value) (w5 : World), Kd.R (Kd.int .i64) 3 w5 s ok v1 (pre ++ [rd dt x]) → W.grownBy w5 v.ownBlock → Q .normal a' (w5.setCell ⟨g, 1, none⟩ v1)) :
  (match Try.f51.body with | some (.seq _ (.seq _ (.seq (.seq _ (.block _ (.rangeFunc _ _ _ b))) _))) => b | _ => .skip).wpIn (Fence.wide.inRound l) n Try.prog Q ({ tmps := #[t0, t1, Value.pointer (some ⟨H, 0, none⟩), t3, t4, Value.pointer (some ⟨g, 0, none⟩), Value.int IntKind.i64 x, t7, t8, t9, t10, t11, t12, t13, t14, t15, t16, t17, t18, t19, t20, t21, t22, t23, t24, t25, t26, t27, t28, t29, t30, t31, t32], defers := [] } : Act) W := by
 obtain ⟨ad, e, y0⟩ := Kd.at_int hr x hx0 hx1
 subst e
 have k0 := (blk_cell hd 0).trans (show (#[.slice (some ad) dt.length c2] : Array Value)[0]? = some (.slice (some ad) dt.length c2) from rfl)
 have k1 := (blk_cell hb 1).trans (show (#[v0, v] : Array Value)[1]? = some v from rfl)
 obtain ⟨v1, w5, hrun, hR5, hg5⟩ := append_drew (P := Try.prog) s 22 3 22 Try.underlying22 info3 v pre (rd dt x) ok hfresh hR hs (by omega)
 obtain ⟨E1, f1, rfl⟩ := Kd.R_slice hR5
 rw [show (pre ++ [rd dt x]).length = pre.length + 1 by simp] at hR5 hrun
 obtain ⟨hok, e1, e2⟩ := appOk_of hrun
 have hfo : Try.prog.follows Departure.mixedOrders = true := by kernel_rfl
 have hb5 : w5.heap[g]? = some (.cells #[v0, v] 26 (0, 0)) := blk_grown hb hg5 (fun h => hne h.symm)
 have k5 := (blk_cell hb5 1).trans (show (#[v0, v] : Array Value)[1]? = some v from rfl)
 have f5 := blk_frozen hb5 1
 have k6 := (blk_cell (blk_alloc hb (.cells #[.int .i64 (rd dt x)] 3)) 1).trans (show (#[v0, v] : Array Value)[1]? = some v from rfl)
 have HRR := Aside0.mk (And.intro hR5 hg5)
 clear hrun hR5 hg5 hb5
 show Code.wpIn _ _ _ _ _ _ _
 dsimp only [Try.f51]
 gi_wp2
 gi_region_with_o (fail)
 all_goals exact hQ _ _ _ HRR.out.1 HRR.out.2
end
section
attribute [local go_sem] Oper.semAt_some
set_option maxHeartbeats 4000000 in
set_option maxRecDepth 100000 in
theorem shown_rest (n : Nat) (hn : 3 ≤ n) (A2 A0 A1 : Option Addr) (c2 c0 c1 k g : Nat) (dt ds ss xs : List Int) (off base : Int) (v0 v : Value) (w W : World) (T7 T8 T9 T10 T11 T12 T13 T14 : Value)
  (hr2 : Kd.C (Kd.int .i64) w A2 dt.length dt) (hr0 : Kd.C (Kd.int .i64) w A0 ds.length ds) (hr1 : Kd.C (Kd.int .i64) w A1 ss.length ss) (hl : ds.length ≤ ss.length) (hl2 : ds.length ≤ 1000)
  (hxs : spotsF ds ss k (List.replicate ds.length 0) off = some xs) (hlen : xs.length ≤ 1000000) (hp : ∀ p ∈ xs, 0 ≤ p ∧ p < dt.length)
  (hB : Below w.heap.size w W) (hd : W.heap[w.heap.size]? = some (.cells #[.slice A2 dt.length c2] 22 (0, 0)))
  (hw : W.heap[w.heap.size + 1]? = some (.cells #[.slice A0 ds.length c0, .slice A1 ss.length c1, .int .i64 off, .int .i64 base] 36 (0, 0)))
  (hres : W.heap[w.heap.size + 2]? = some (.cells #[.slice none 0 0, .slice none 0 0] 26 (0, 0))) (hg0 : w.heap.size + 2 < g)
  (hg : W.heap[g]? = some (.cells #[v0, v] 26 (0, 0))) (hv0 : Kd.R (Kd.int .i64) 3 W w.heap.size (fun q => some q ≠ v.ownBlock) v0 ds) (hv : Kd.R (Kd.int .i64) 3 W w.heap.size (fun q => some q ≠ v0.ownBlock) v []) :
  (match Try.f51.body with | some (.seq _ (.seq _ r)) => r | _ => .skip).wpIn Fence.wide n Try.prog (bodyPostM Fence.wide n Try.prog Try.f51 fun e w' => ∃ v0_ v1_ : Value, e = Ending.returned (Value.agg #[v0_, v1_]) ∧ Kd.R (Kd.int IntKind.i64) 3 w' w.heap.size (fun k_ => some k_ ≠ (v1_ : Value).ownBlock) v0_ ds ∧ Kd.R (Kd.int IntKind.i64) 3 w' w.heap.size (fun k_ => some k_ ≠ (v0_ : Value).ownBlock) v1_ (xs.map (rd dt)) ∧ Below w.heap.size w w')
   ({ tmps := #[Value.slice A2 dt.length c2, Value.agg #[Value.slice A0 ds.length c0, Value.slice A1 ss.length c1, Value.int IntKind.i64 off, Value.int IntKind.i64 base], Value.pointer (some ⟨w.heap.size, 0, none⟩), Value.pointer (some ⟨w.heap.size + 1, 0, none⟩), Value.pointer (some ⟨w.heap.size + 2, 0, none⟩), Value.pointer (some ⟨g, 0, none⟩), undef, T7, T8, T9, T10, T11, T12, T13, T14, undef, undef, undef, undef, undef, undef, undef, undef, undef, undef, undef, undef, undef, undef, undef, undef, undef, undef], defers := [] } : Act) W := by
 have HR2 := Aside0.mk hr2
 have HR0 := Aside0.mk hr0
 have HR1 := Aside0.mk hr1
 have HL := Aside0.mk (And.intro hl (And.intro hl2 hlen))
 have HX := Aside0.mk hxs
 have HPB := Aside0.mk hp
 have HB := Aside0.mk hB
 have HD := Aside0.mk hd
 have HW := Aside0.mk hw
 have HRS := Aside0.mk hres
 have HG := Aside0.mk hg
 have HV0 := Aside0.mk hv0
 have HV := Aside0.mk hv
 have hG0 := hg0
 have hsz := hB.size
 have hglt := (Array.getElem?_eq_some_iff.1 hg).1
 have hrlt := (Array.getElem?_eq_some_iff.1 hres).1
 have d0 := (blk_cell hw 0).trans (show (#[.slice A0 ds.length c0, .slice A1 ss.length c1, .int .i64 off, .int .i64 base] : Array Value)[0]? = some (.slice A0 ds.length c0) from rfl)
 have d1 := (blk_cell hw 1).trans (show (#[.slice A0 ds.length c0, .slice A1 ss.length c1, .int .i64 off, .int .i64 base] : Array Value)[1]? = some (.slice A1 ss.length c1) from rfl)
 have d2 := (blk_cell hw 2).trans (show (#[.slice A0 ds.length c0, .slice A1 ss.length c1, .int .i64 off, .int .i64 base] : Array Value)[2]? = some (.int .i64 off) from rfl)
 clear hr0 hr1 hr2 hl hl2 hxs hlen hp hB hd hw hres hg hv0 hv
 have h1 : 1 ≤ n := by omega
 obtain ⟨Q, hQ⟩ : ∃ Q, Q = (bodyPostM Fence.wide n Try.prog Try.f51 fun e w' => ∃ v0_ v1_ : Value, e = Ending.returned (Value.agg #[v0_, v1_]) ∧ Kd.R (Kd.int IntKind.i64) 3 w' w.heap.size (fun k_ => some k_ ≠ (v1_ : Value).ownBlock) v0_ ds ∧ Kd.R (Kd.int IntKind.i64) 3 w' w.heap.size (fun k_ => some k_ ≠ (v0_ : Value).ownBlock) v1_ (xs.map (rd dt)) ∧ Below w.heap.size w w') := ⟨_, rfl⟩
 rw [← hQ]
 dsimp only [Try.f51]
 have HQ := Aside0.mk hQ
 clear hQ
 gi_wp2_with (refine ⟨trivial, ?_⟩; gi_at_call 61; refine (spots_in (n - 1) (.int .i64 0) (.int .i64 0) off _ A0 A1 ds.length c0 ss.length c1).mono ?_; rintro e w' ⟨rfl, rfl⟩)
 clear d0 d1 d2
 obtain ⟨w2, hw2⟩ : ∃ w2, w2 = ((W.alloc (.cells #[.slice A0 ds.length c0] 22)).alloc (.cells #[.slice A1 ss.length c1] 22)).alloc (.cells #[.int .i64 off] 3) := ⟨_, rfl⟩
 have SQ := spots_seq (n - 1) (by omega) A0 A1 c0 c1 k ds ss xs off w W HR0.out HR1.out HL.out.1 HL.out.2.1 hsz (fun q hq => HB.out.block q hq) HX.out
 have S2 : w2.heap.size = W.heap.size + 3 := by rw [hw2]; simp
 have al : ∀ (q : Nat) (o : Obj), W.heap[q]? = some o → w2.heap[q]? = some o := fun q o h => by rw [hw2]; exact blk_alloc (blk_alloc (blk_alloc h _) _) _
 have B2 : Below w.heap.size w w2 := by rw [hw2]; exact ((HB.out.alloc (by omega) _).alloc (by simp; omega) _).alloc (by simp; omega) _
 have RA : ∀ (ok : Nat → Prop) (u : Value) (us : List Int), Kd.R (Kd.int .i64) 3 W w.heap.size ok u us → Kd.R (Kd.int .i64) 3 w2 w.heap.size ok u us := fun ok u us h => by rw [hw2]; exact Kd.R_alloc (Kd.R_alloc (Kd.R_alloc h _) _) _
 rw [← hw2] at SQ ⊢
 clear hw2
 have V0 := Kd.R_mono (ok' := fun q => q < W.heap.size ∧ q ≠ g ∧ some q ≠ v.ownBlock) (Kd.R_bound HV0.out) (fun q hq => ⟨hq.2.2.1, (by
  rintro rfl
  obtain ⟨t_, ht_, cs_, hcs_⟩ := hq.2.2.2
  rw [HG.out] at hcs_
  simp [Kd.int, Kd.scalar] at ht_
  subst ht_
  cases hcs_), hq.1⟩)
 have VU := Kd.R_mono (ok' := (fun q => (q < W.heap.size ∨ W.heap.size + 5 < q) ∧ some q ≠ v0.ownBlock)) (Kd.R_bound HV.out) (fun q hq => ⟨.inl hq.2.2.1, hq.1⟩)
 have K1 := al _ _ HD.out
 have K2 := al _ _ HRS.out
 have K3 := al _ _ HG.out
 have V0' := RA _ _ _ V0
 have VU' := RA _ _ _ VU
 clear al RA V0 VU
 refine rangeFunc_row (w := w2) rfl h1 (gf := 97) (lb := #[.pointer (some ⟨W.heap.size, 0, none⟩), .pointer (some ⟨W.heap.size + 2, 0, none⟩), .pointer (some ⟨W.heap.size + 1, 0, none⟩)]) rfl trivial (enters_of Try.func97 (by kernel_rfl) rfl)
  SQ (by intro q hq; omega) (fun _ => rfl)
  (fun pre U => U.heap[w.heap.size]? = some (.cells #[.slice A2 dt.length c2] 22 (0, 0)) ∧ U.heap[w.heap.size + 2]? = some (.cells #[.slice none 0 0, .slice none 0 0] 26 (0, 0)) ∧ (∃ u, U.heap[g]? = some (.cells #[v0, u] 26 (0, 0)) ∧ Kd.R (Kd.int .i64) 3 U w.heap.size (fun q => q < W.heap.size ∧ q ≠ g ∧ some q ≠ u.ownBlock) v0 ds ∧ Kd.R (Kd.int .i64) 3 U w.heap.size (fun q => (q < W.heap.size ∨ W.heap.size + 5 < q) ∧ some q ≠ v0.ownBlock) u (pre.map (rd dt))) ∧ Below w.heap.size w U)
  (fun _ _ _ => False) ?hI (fun _ _ _ _ h _ => h.elim) ?h0
  (fun x => { tmps := #[Value.slice A2 dt.length c2, Value.agg #[Value.slice A0 ds.length c0, Value.slice A1 ss.length c1, Value.int IntKind.i64 off, Value.int IntKind.i64 base], Value.pointer (some ⟨w.heap.size, 0, none⟩), Value.pointer (some ⟨w.heap.size + 1, 0, none⟩), Value.pointer (some ⟨w.heap.size + 2, 0, none⟩), Value.pointer (some ⟨g, 0, none⟩), Value.int IntKind.i64 x, T7, T8, T9, T10, T11, T12, T13, T14, Value.pointer (some ⟨w.heap.size + 1, 0, none⟩), Value.slice A0 ds.length c0, Value.pointer (some ⟨w.heap.size + 1, 1, none⟩), Value.slice A1 ss.length c1, Value.pointer (some ⟨w.heap.size + 1, 2, none⟩), Value.int IntKind.i64 off, Value.func (Fn.func 97) #[] #[Value.pointer (some ⟨W.heap.size, 0, none⟩), Value.pointer (some ⟨W.heap.size + 2, 0, none⟩), Value.pointer (some ⟨W.heap.size + 1, 0, none⟩)], Value.int IntKind.i64 x, undef, undef, undef, undef, undef, undef, undef, undef, undef, undef], defers := [] }) ?assign ?body ?done ?stop
 case hI =>
  rintro pre A B ⟨h1, h2, ⟨u, h3, h4, h5⟩, h6⟩ hk
  rw [S2] at hk
  have hlt1 := (Array.getElem?_eq_some_iff.1 h1).1
  have hlt2 := (Array.getElem?_eq_some_iff.1 h2).1
  have hlt3 := (Array.getElem?_eq_some_iff.1 h3).1
  exact ⟨(hk.2.1 _ hlt1 (by omega) (by omega)).trans h1, (hk.2.1 _ hlt2 (by omega) (by omega)).trans h2, ⟨u, (hk.2.1 _ hlt3 (by omega) (by omega)).trans h3, Kd.R_step h4 (fun q hq hlt => hk.2.1 q hlt (by omega) (by omega)), Kd.R_step h5 (fun q hq hlt => hk.2.1 q hlt (by omega) (by omega))⟩, ⟨hk.2.2.1.trans h6.os, hk.2.2.2.1.trans h6.tape, hk.2.2.2.2.trans h6.output, Nat.le_trans h6.size hk.1, fun q hq => (hk.2.1 q (by have := h6.size; omega) (by omega) (by omega)).trans (h6.block q hq)⟩⟩
 case h0 => exact ⟨K1, K2, ⟨v, K3, V0', VU'⟩, B2⟩
 case assign =>
  intro l x U K hK
  gi_wp2
  exact hK
 case body =>
  rintro l pre x U ⟨hd, hrs, ⟨u, hg, h0, hu⟩, hB⟩ hpre hsz2
  rw [S2] at hsz2
  have hxm : x ∈ xs := hpre.subset (by simp)
  have hx := HPB.out x hxm
  have hpl : (pre.map (rd dt)).length ≤ 1000000 := by
   have h := hpre.length_le
   have h2 := HL.out.2.2
   rw [List.length_append] at h
   rw [List.length_map]
   omega
  have hne := Kd.R_ne hu hg (by decide)
  have hgU := (Array.getElem?_eq_some_iff.1 hg).1
  refine shown_body (n - 1 - 1) l w.heap.size g w.heap.size (by omega) A2 c2 dt (pre.map (rd dt)) x v0 u U _ _ _ _ _ _ _ _ _ _ _ _ _ _ _ _ _ _ _ _ _ _ _ _ _ _ _ _ _ _ _ hd (Kd.C_below HR2.out hB) hx.1 hx.2 hpl hg (fun q => (q < W.heap.size ∨ W.heap.size + 5 < q) ∧ some q ≠ v0.ownBlock) (fun q hq => ⟨.inr (by omega), fun e => ?_⟩) hu hB.size (fun e => hne e.symm) ?_
  ·have := (h0.1 q e.symm).1
   omega
  ·intro a' v1 w5 hr1 hg1
   have hgs := hg1.size
   have hty := Kd.R_typed hu
   have hbs := Kd.R_base hu
   have hok := hu.1
   have hok0 := h0.1
   have hok1 := hr1.1
   have hg5 := blk_grown hg hg1 hne
   have hne1 : ∀ q, q = w.heap.size ∨ q = w.heap.size + 2 → q ≠ g := by intro q hq; omega
   have z0 : Kd.R (Kd.int .i64) 3 (w5.setCell ⟨g, 1, none⟩ v1) w.heap.size (fun q => q < W.heap.size ∧ q ≠ g ∧ some q ≠ u.ownBlock) v0 ds := Kd.R_step h0 (fun q hq hlt => (Below.heap_setCell w5 ⟨g, 1, none⟩ v1 q hq.2.1).trans (hg1.block q hlt hq.2.2))
   have z1 := Kd.R_set hr1 hg5 (by decide) 1 v1
   refine ⟨(KeepsOthers.of_grownBy hg1 (fun j o hj ho => ?_)).trans (KeepsOthers.setCell _ _ _), ⟨by simp; exact hgs, fun q hq => ?_⟩, ?_, ?_, ⟨v1, blk_put hg5 1 _ rfl, ?_, ?_⟩, ?_⟩
   ·obtain ⟨cs, hcs⟩ := hty j hj
    rw [hcs] at ho
    cases ho
    rfl
   ·refine (Below.heap_setCell w5 ⟨g, 1, none⟩ v1 q (by show q ≠ g; omega)).trans (hg1.block q (by omega) (fun e => ?_))
    have h1_ := (hok q e.symm).1
    have h2_ := hbs q e.symm
    omega
   ·exact (Below.heap_setCell w5 ⟨g, 1, none⟩ v1 w.heap.size (by show w.heap.size ≠ g; omega)).trans (blk_grown hd hg1 (Kd.R_ne hu hd (by decide)))
   ·exact (Below.heap_setCell w5 ⟨g, 1, none⟩ v1 (w.heap.size + 2) (by show w.heap.size + 2 ≠ g; omega)).trans (blk_grown hrs hg1 (Kd.R_ne hu hrs (by decide)))
   ·exact Kd.R_of_own (Kd.own_of_R z0) (fun q hq => ⟨(hok0 q hq).1, (hok0 q hq).2.1, fun e => (hok1 q e.symm).2 hq.symm⟩)
   ·rw [List.map_append]
    exact z1
   ·exact (hB.grown hg1 (by omega) (fun q e => hbs q e)).setCell (p := ⟨g, 1, none⟩) (by show w.heap.size ≤ g; omega) _
 case stop =>
  rintro D c pre U _ _ h _
  exact h.elim
 case done =>
  rintro D U rfl ⟨hd, hrs, ⟨u, hg, h0, hu⟩, hB⟩ hK
  obtain ⟨E0, f0, rfl⟩ := Kd.R_slice h0
  obtain ⟨E1, f1, rfl⟩ := Kd.R_slice hu
  simp only [List.length_map] at hu h0 hg
  have m0 := (blk_cell hg 0).trans (show (#[.slice E0 ds.length f0, .slice E1 xs.length f1] : Array Value)[0]? = some (.slice E0 ds.length f0) from rfl)
  have m1 := (blk_cell hg 1).trans (show (#[.slice E0 ds.length f0, .slice E1 xs.length f1] : Array Value)[1]? = some (.slice E1 xs.length f1) from rfl)
  have p0 := (blk_cell hrs 0).trans (show (#[.slice none 0 0, .slice none 0 0] : Array Value)[0]? = some (.slice none 0 0) from rfl)
  have p1 := (blk_cell hrs 1).trans (show (#[.slice none 0 0, .slice none 0 0] : Array Value)[1]? = some (.slice none 0 0) from rfl)
  have q0 := blk_frozen hrs 0
  have q1 := blk_frozen hrs 1
  gi_wp2
  have a0 : (U.setCell ⟨w.heap.size + 2, 0, none⟩ (.slice E0 ds.length f0)).heap[w.heap.size + 2]? = some (.cells #[.slice E0 ds.length f0, .slice none 0 0] 26 (0, 0)) := blk_put hrs 0 _ rfl
  have a1 : ((U.setCell ⟨w.heap.size + 2, 0, none⟩ (.slice E0 ds.length f0)).setCell ⟨w.heap.size + 2, 1, none⟩ (.slice E1 xs.length f1)).heap[w.heap.size + 2]? = some (.cells #[.slice E0 ds.length f0, .slice E1 xs.length f1] 26 (0, 0)) := blk_put a0 1 _ rfl
  have hKz := (Below.heap_setCell (U.setCell ⟨w.heap.size + 2, 0, none⟩ (.slice E0 ds.length f0)) ⟨w.heap.size + 2, 1, none⟩ (.slice E1 xs.length f1) (w2.heap.size) (by show w2.heap.size ≠ w.heap.size + 2; omega)).trans ((Below.heap_setCell U ⟨w.heap.size + 2, 0, none⟩ (.slice E0 ds.length f0) (w2.heap.size) (by show w2.heap.size ≠ w.heap.size + 2; omega)).trans hK)
  have y0 := Kd.R_set (Kd.R_set h0 hrs (by decide) 0 (.slice E0 ds.length f0)) a0 (by decide) 1 (.slice E1 xs.length f1)
  have y1 := Kd.R_set (Kd.R_set hu hrs (by decide) 0 (.slice E0 ds.length f0)) a0 (by decide) 1 (.slice E1 xs.length f1)
  have hB2 := (hB.setCell (p := ⟨w.heap.size + 2, 0, none⟩) (by show w.heap.size ≤ w.heap.size + 2; omega) (.slice E0 ds.length f0)).setCell (p := ⟨w.heap.size + 2, 1, none⟩) (by show w.heap.size ≤ w.heap.size + 2; omega) (.slice E1 xs.length f1)
  rw [HQ.out]
  refine ⟨by simp, .inl ⟨_, _, rfl, run_takeDeferred hKz, ?_⟩⟩
  refine ⟨_, results_cell_row rfl _ _ (w.heap.size + 2) 26 #[.slice E0 ds.length f0, .slice E1 xs.length f1] (0, 0) _ rfl ((World.putObj_heap_other (by omega)).trans a1) Try.underlying26 rfl (by kernel_rfl), _, _, rfl, ?_, ?_, ?_⟩
  ·exact Kd.R_mono (Kd.R_step y0 (fun q hq _ => World.putObj_heap_other (by omega))) (fun q hq => hq.2.2)
  ·exact Kd.R_mono (Kd.R_step y1 (fun q hq _ => World.putObj_heap_other (by omega))) (fun q hq => hq.2)
  ·exact hB2.trans (belowK_b (w := w) (Nat.le_refl _) _ (w2.heap.size) _ _ (by omega) hKz rfl rfl)
end
section
attribute [local go_sem] Oper.semAt_some
set_option maxRecDepth 100000 in
theorem shown_leaf (n : Nat) (hn : 3 ≤ n) (A2 A0 A1 B0 : Option Addr) (c2 c0 c1 d0 k g gm b0 : Nat) (dt ds ss xs : List Int) (off base m : Int) (w w5 W : World) (T7 T8 T9 T10 T11 T12 T13 T14 : Value)
  (HR : Kd.C (Kd.int .i64) w A2 dt.length dt ∧ Kd.C (Kd.int .i64) w A0 ds.length ds ∧ ds.length ≤ c0 ∧ Kd.C (Kd.int .i64) w A1 ss.length ss)
  (HL : ds.length ≤ ss.length ∧ ds.length ≤ 1000 ∧ impl_product.f k ds = some m ∧ 0 ≤ m ∧ m ≤ 1000000 ∧ spotsF ds ss k (List.replicate ds.length 0) off = some xs ∧ xs.length ≤ 1000000 ∧ ∀ p ∈ xs, 0 ≤ p ∧ p < dt.length)
  (HO : Kd.R (Kd.int .i64) 3 w5 b0 (fun _ => True) (.slice B0 ds.length d0) ds) (hb0 : w.heap.size + 3 ≤ b0) (h5 : w.heap.size + 3 ≤ w5.heap.size)
  (hD : w5.heap[w.heap.size]? = some (.cells #[.slice A2 dt.length c2] 22 (0, 0))) (hV : w5.heap[w.heap.size + 1]? = some (.cells #[.slice A0 ds.length c0, .slice A1 ss.length c1, .int .i64 off, .int .i64 base] 36 (0, 0)))
  (hRS : w5.heap[w.heap.size + 2]? = some (.cells #[.slice none 0 0, .slice none 0 0] 26 (0, 0)))
  (hB : Below w.heap.size w W) (hg0 : w.heap.size + 2 < g) (hg1 : g < b0 ∨ w5.heap.size ≤ g) (hgm : w5.heap.size ≤ gm) (hk : ∀ j, j < w5.heap.size → j ≠ g → W.heap[j]? = w5.heap[j]?)
  (hg : W.heap[g]? = some (.cells #[.slice B0 ds.length d0, .slice (some ⟨gm, 0, none⟩) 0 m.toNat] 26 (0, 0))) (hm : W.heap[gm]? = some (.cells (madeCells #[.int .i64 0] m.toNat) 3 (0, 0))) :
  (match Try.f51.body with | some (.seq _ (.seq _ r)) => r | _ => .skip).wpIn Fence.wide n Try.prog (bodyPostM Fence.wide n Try.prog Try.f51 fun e w' => ∃ v0_ v1_ : Value, e = Ending.returned (Value.agg #[v0_, v1_]) ∧ Kd.R (Kd.int IntKind.i64) 3 w' w.heap.size (fun k_ => some k_ ≠ (v1_ : Value).ownBlock) v0_ ds ∧ Kd.R (Kd.int IntKind.i64) 3 w' w.heap.size (fun k_ => some k_ ≠ (v0_ : Value).ownBlock) v1_ (xs.map (rd dt)) ∧ Below w.heap.size w w')
   ({ tmps := #[Value.slice A2 dt.length c2, Value.agg #[Value.slice A0 ds.length c0, Value.slice A1 ss.length c1, Value.int IntKind.i64 off, Value.int IntKind.i64 base], Value.pointer (some ⟨w.heap.size, 0, none⟩), Value.pointer (some ⟨w.heap.size + 1, 0, none⟩), Value.pointer (some ⟨w.heap.size + 2, 0, none⟩), Value.pointer (some ⟨g, 0, none⟩), undef, T7, T8, T9, T10, T11, T12, T13, T14, undef, undef, undef, undef, undef, undef, undef, undef, undef, undef, undef, undef, undef, undef, undef, undef, undef, undef], defers := [] } : Act) W := by
 have hlt := Kd.R_lt HO
 have hbs := Kd.R_base HO
 refine shown_rest n hn A2 A0 A1 c2 c0 c1 k g dt ds ss xs off base (.slice B0 ds.length d0) (.slice (some ⟨gm, 0, none⟩) 0 m.toNat) w W _ _ _ _ _ _ _ _ HR.1 HR.2.1 HR.2.2.2 HL.1 HL.2.1 HL.2.2.2.2.2.1 HL.2.2.2.2.2.2.1 HL.2.2.2.2.2.2.2 hB
  ((hk _ (by omega) (by omega)).trans hD) ((hk _ (by omega) (by omega)).trans hV) ((hk _ (by omega) (by omega)).trans hRS) hg0 hg ?_ ?_
 ·have h1 := Kd.R_reok rfl HO (ok := fun q => q ≠ g ∧ some q ≠ (Value.slice (some ⟨gm, 0, none⟩) 0 m.toNat).ownBlock) (fun q hq => ⟨by have := hlt q hq; have := hbs q hq; omega, by have := hlt q hq; simp [Value.ownBlock]; omega⟩)
  exact Kd.R_mono (Kd.R_lower (Kd.R_step h1 (fun q ho hq => hk q hq ho.1)) (by omega)) (fun q hq => hq.2)
 ·refine ⟨fun q hq => ?_, [], ⟨?_, Reps.none _ _⟩⟩
  ·have : gm = q := by simpa [Value.ownBlock] using hq
   subst this
   intro he
   have := hlt gm he.symm
   omega
  ·exact ⟨by simp, .inr ⟨gm, m.toNat, _, rfl, by omega, hm, Nat.zero_le _, by have := HL.2.2.2.2.1; unfold maxLen; omega, by show _ = m.toNat * 1; simp [madeCells], by simp⟩⟩
set_option maxHeartbeats 4000000 in
set_option maxRecDepth 100000 in
theorem shown_in (n : Nat) (hn : 3 ≤ n) (A2 A0 A1 : Option Addr) (c2 c0 c1 k : Nat) (dt ds ss xs : List Int) (off base m : Int) (w : World)
  (hr2 : Kd.C (Kd.int .i64) w A2 dt.length dt) (hr0 : Kd.C (Kd.int .i64) w A0 ds.length ds) (hc0 : ds.length ≤ c0) (hr1 : Kd.C (Kd.int .i64) w A1 ss.length ss) (hl : ds.length ≤ ss.length) (hl2 : ds.length ≤ 1000)
  (hm : impl_product.f k ds = some m) (hm0 : 0 ≤ m) (hm1 : m ≤ 1000000)
  (hxs : spotsF ds ss k (List.replicate ds.length 0) off = some xs) (hlen : xs.length ≤ 1000000) (hp : ∀ p ∈ xs, 0 ≤ p ∧ p < dt.length) :
  CallsIn Fence.wide n Try.prog 51 #[.slice A2 dt.length c2, .agg #[.slice A0 ds.length c0, .slice A1 ss.length c1, .int .i64 off, .int .i64 base]] w fun e w' => ∃ v0_ v1_ : Value, e = Ending.returned (Value.agg #[v0_, v1_]) ∧ Kd.R (Kd.int IntKind.i64) 3 w' w.heap.size (fun k_ => some k_ ≠ (v1_ : Value).ownBlock) v0_ ds ∧ Kd.R (Kd.int IntKind.i64) 3 w' w.heap.size (fun k_ => some k_ ≠ (v0_ : Value).ownBlock) v1_ (xs.map (rd dt)) ∧ Below w.heap.size w w' := by
 have HR := Aside0.mk (And.intro hr2 (And.intro hr0 (And.intro hc0 hr1)))
 have HL := Aside0.mk (And.intro hl (And.intro hl2 (And.intro hm (And.intro hm0 (And.intro hm1 (And.intro hxs (And.intro hlen hp)))))))
 clear hr2 hr0 hc0 hr1 hl hl2 hm hm0 hm1 hxs hlen hp
 refine callsIn_of_wp_marks Try.func51 rfl trivial ?_ rfl
 simp only [Try.ntmps51, List.size_toArray, List.length_cons, List.length_nil, Nat.reduceAdd, Nat.reduceSub, Array.replicate_succ, Array.replicate_zero, List.push_toArray, List.append_toArray, List.nil_append, List.cons_append]
 have h1 : 1 ≤ n := by omega
 gi_wp2
 obtain ⟨W0, hW0⟩ : ∃ W0, W0 = ((w.alloc (.cells #[.slice A2 dt.length c2] 22)).alloc (.cells #[.slice A0 ds.length c0, .slice A1 ss.length c1, .int .i64 off, .int .i64 base] 36)).alloc (.cells #[.slice none 0 0, .slice none 0 0] 26) := ⟨_, rfl⟩
 rw [← hW0]
 have HW0 := Aside0.mk hW0
 have hcl : slices_Clone_int_int.f ds = some ds := by unfold slices_Clone_int_int.f; rw [if_pos (by have := HL.out.2.1; omega)]
 have HCL := Aside0.mk hcl
 have BV := Aside0.mk (show W0.heap[w.heap.size + 1]? = some (.cells #[.slice A0 ds.length c0, .slice A1 ss.length c1, .int .i64 off, .int .i64 base] 36 (0, 0)) from by rw [hW0]; exact (blk_alloc3 w _ _ _).2.1)
 have BD := Aside0.mk (show W0.heap[w.heap.size]? = some (.cells #[.slice A2 dt.length c2] 22 (0, 0)) from by rw [hW0]; exact (blk_alloc3 w _ _ _).1)
 have BR := Aside0.mk (show W0.heap[w.heap.size + 2]? = some (.cells #[.slice none 0 0, .slice none 0 0] 26 (0, 0)) from by rw [hW0]; exact (blk_alloc3 w _ _ _).2.2)
 have HB := Aside0.mk (show Below w.heap.size w W0 from by rw [hW0]; exact (((Below.refl _ w).alloc (Nat.le_refl _) _).alloc (by simp) _).alloc (by simp; omega) _)
 have HS0 := Aside0.mk (show W0.heap.size = w.heap.size + 3 from by rw [hW0]; simp)
 have kc := (blk_cell BV.out 0).trans (show (#[.slice A0 ds.length c0, .slice A1 ss.length c1, .int .i64 off, .int .i64 base] : Array Value)[0]? = some (.slice A0 ds.length c0) from rfl)
 clear hW0 hcl
 obtain ⟨i3, hi3, hz3, hs3, hy3⟩ := info_parts info3
 have hmk : ∀ U : World, (Instr.makeSlice 22 (.int .i64 0) (.int .i64 m)).run Try.prog U = .ok (.slice (some ⟨U.heap.size, 0, none⟩) 0 m.toNat) (U.alloc (.cells (madeCells #[.int .i64 0] m.toNat) 3)) := by
  intro U
  have h := run_make (P := Try.prog) (w := U) 22 3 i3 (.int .i64 0) Try.underlying22 hi3 hz3 .i64 .i64 0 m (by omega) HL.out.2.2.2.1 (by rw [hy3]; have := HL.out.2.2.2.2.1; omega) (by have := HL.out.2.2.2.2.1; omega)
  rw [hs3, Nat.mul_one] at h
  exact h
 refine wpIn_wide.2 ?_
 go_region_held3? (fun w' => w'.cell? ⟨w.heap.size + 1, 0, none⟩ = some (.slice A0 ds.length c0)) (first | (exact (blk_cell (Bu BV.out) 0).trans rfl) | (exact (blk_cell (t := 36) (cs := #[.slice A0 ds.length c0, .slice A1 ss.length c1, .int .i64 off, .int .i64 base]) (by (repeat (first | (with_reducible refine blk_drewN ?_ _) | (with_reducible refine blk_drew ?_) | (with_reducible refine blk_alloc ?_ _) | (with_reducible refine blk_far ?_ (by first | (show w.heap.size + 1 ≠ w5.heap.size; have := HSZ.out; omega) | (show w.heap.size + 1 ≠ w5.heap.size + 1; have := HSZ.out; omega) | (show w.heap.size + 1 ≠ W0.heap.size; have := HS0.out; omega)) _))); exact BV.out) 0).trans rfl) | go_keep) (first | (go_at_call 44; refine (slices_Clone_int_int.calls A0 c0 ds ds _ ?s1 HR.out.2.2.1 HCL.out).mono ?_; (case s1 => exact (Cu ((Kd.C_below HR.out.2.1 HB.out)))); rintro e w5 ⟨v0, rfl, ho0, hb⟩; obtain ⟨B0, d0, rfl⟩ := Kd.R_slice ho0; have HSZ := Aside0.mk (show w.heap.size + 3 ≤ w5.heap.size from Nat.le_trans (by have := HS0.out; first | omega | (simp; omega) | (simp <;> omega)) hb.size); have hz_ := Aside0.mk (show w5.heap[w.heap.size + 1]? = some (.cells #[.slice A0 ds.length c0, .slice A1 ss.length c1, .int .i64 off, .int .i64 base] 36 (0, 0)) from (hb.block (w.heap.size + 1) (by have := HS0.out; first | omega | (simp; omega) | (simp <;> omega))).trans (by first | exact BV.out | exact blk_alloc BV.out _ | exact blk_alloc (show W0.drew.heap[w.heap.size + 1]? = _ from BV.out) _)); have hzd_ := Aside0.mk (show w5.heap[w.heap.size]? = some (.cells #[.slice A2 dt.length c2] 22 (0, 0)) from (hb.block (w.heap.size) (by have := HS0.out; first | omega | (simp; omega) | (simp <;> omega))).trans (by first | exact BD.out | exact blk_alloc BD.out _ | exact blk_alloc (show W0.drew.heap[w.heap.size]? = _ from BD.out) _)); have hzr_ := Aside0.mk (show w5.heap[w.heap.size + 2]? = some (.cells #[.slice none 0 0, .slice none 0 0] 26 (0, 0)) from (hb.block (w.heap.size + 2) (by have := HS0.out; first | omega | (simp; omega) | (simp <;> omega))).trans (by first | exact BR.out | exact blk_alloc BR.out _ | exact blk_alloc (show W0.drew.heap[w.heap.size + 2]? = _ from BR.out) _)); have hb_ := Aside0.mk (below_step (Hu HB.out) hb); clear BV HB BD BR; have BV := hz_; have HB := hb_; have BD := hzd_; have BR := hzr_; clear hz_ hb_ hzd_ hzr_; (first | (have hg_ : w5.heap[W0.heap.size]? = some (.cells #[.slice none 0 0, .slice none 0 0] 26 (0, 0)) := (hb.block W0.heap.size (by first | (simp; done) | (show W0.heap.size < (W0.heap.push _).size; simp))).trans (by first | exact heap_alloc_new W0 _ | exact heap_alloc_new W0.drew _); have GF := Aside0.mk hg_; have g0_ := (blk_cell hg_ 0).trans (show (#[.slice none 0 0, .slice none 0 0] : Array Value)[0]? = some (.slice none 0 0) from rfl); have g1_ := (blk_cell hg_ 1).trans (show (#[.slice none 0 0, .slice none 0 0] : Array Value)[1]? = some (.slice none 0 0) from rfl); have g2_ := blk_frozen hg_ 0; have g3_ := blk_frozen hg_ 1; have hne3_ : ¬ (W0.heap.size = w5.heap.size) := (by have hz_ := hb.size; first | omega | (simp at hz_; omega) | (simp [World.alloc] at hz_; omega)); have hne4_ : ¬ (w5.heap.size = W0.heap.size) := (fun e_ => hne3_ e_.symm); clear hg_) | skip); have kx := heap_alloc_new w5 (.cells #[.slice none 0 0, .slice none 0 0] 26); have KX := Aside0.mk kx; have x0_ := (blk_cell kx 0).trans (show (#[.slice none 0 0, .slice none 0 0] : Array Value)[0]? = some (.slice none 0 0) from rfl); have x1_ := (blk_cell kx 1).trans (show (#[.slice none 0 0, .slice none 0 0] : Array Value)[1]? = some (.slice none 0 0) from rfl); have x2_ := blk_frozen kx 0; have x3_ := blk_frozen kx 1; clear kx; have hne1_ : ¬ (w.heap.size + 1 = w5.heap.size) := (by have := HSZ.out; omega); have hne2_ : ¬ (w5.heap.size = w.heap.size + 1) := (by have := HSZ.out; omega); have kc5 : w5.cell? ⟨w.heap.size + 1, 0, none⟩ = some (.slice A0 ds.length c0) := (blk_cell BV.out 0).trans rfl; have HO0 := Aside0.mk ho0; clear hb ho0) | (go_at_call 58; refine (impl_product.calls k A0 c0 ds m _ ?s2 HR.out.2.2.1 HL.out.2.2.1).mono ?_; (case s2 => exact (Cu ((Kd.C_below HR.out.2.1 HB.out)))); rintro e w6 ⟨rfl, nd, rfl⟩; have ky : (World.alloc (w5.drewN nd) (.cells #[.slice none 0 0, .slice none 0 0] 26)).heap[w5.heap.size]? = some (.cells #[.slice none 0 0, .slice none 0 0] 26 (0, 0)) := heap_alloc_new (w5.drewN nd) (.cells #[.slice none 0 0, .slice none 0 0] 26); have y_0 := (blk_cell ky 0).trans (show (#[.slice none 0 0, .slice none 0 0] : Array Value)[0]? = some (.slice none 0 0) from rfl); have y_1 := (blk_cell ky 1).trans (show (#[.slice none 0 0, .slice none 0 0] : Array Value)[1]? = some (.slice none 0 0) from rfl); have y_2 := blk_frozen ky 0; have y_3 := blk_frozen ky 1; clear ky; (try (have kz := blk_alloc (blk_drewN GF.out nd) (.cells (madeCells #[.int .i64 0] m.toNat) 3); have z_0 := (blk_cell kz 0).trans (show (#[.slice none 0 0, .slice none 0 0] : Array Value)[0]? = some (.slice none 0 0) from rfl); have z_1 := (blk_cell kz 1).trans (show (#[.slice none 0 0, .slice none 0 0] : Array Value)[1]? = some (.slice none 0 0) from rfl); have z_2 := blk_frozen kz 0; have z_3 := blk_frozen kz 1; clear kz))))
 all_goals rename_i Qx Kx hKx hHx
 ·refine hKx _ _ (shown_leaf n hn A2 A0 A1 B0 c2 c0 c1 d0 k (w5.heap.size + 1) w5.heap.size _ dt ds ss xs off base m w w5 _ _ _ _ _ _ _ _ _ HR.out HL.out HO0.out ?_ HSZ.out BD.out BV.out BR.out ?_ ?_ ?_ ?_ ?_ ?_ ?_)
  ·have := HS0.out
   show w.heap.size + 3 ≤ W0.heap.size
   omega
  ·exact below_alloc (below_alloc (pw_below_drewN HB.out nd) _) _
  ·have := HSZ.out
   omega
  ·exact .inr (Nat.le_succ _)
  ·exact Nat.le_refl _
  ·intro j hj hne
   exact (Below.heap_alloc _ _ j (by simp; omega)).trans (Below.heap_alloc _ _ j hj)
  ·have := heap_alloc_new ((w5.drewN nd).alloc (.cells (madeCells #[.int .i64 0] m.toNat) 3)) (.cells #[.slice B0 ds.length d0, .slice (some ⟨w5.heap.size, 0, none⟩) 0 m.toNat] 26)
   simpa using this
  ·exact blk_alloc (heap_alloc_new (w5.drewN nd) _) _
 ·refine hKx _ _ (shown_leaf n hn A2 A0 A1 B0 c2 c0 c1 d0 k w5.heap.size (w5.heap.size + 1) _ dt ds ss xs off base m w w5 _ _ _ _ _ _ _ _ _ HR.out HL.out HO0.out ?_ HSZ.out BD.out BV.out BR.out ?_ ?_ ?_ ?_ ?_ ?_ ?_)
  ·have := HS0.out
   show w.heap.size + 3 ≤ W0.heap.size
   omega
  ·exact below_alloc (below_set (below_set (below_alloc (pw_below_drewN HB.out nd) _) (by have := HSZ.out; omega)) (by have := HSZ.out; omega)) _
  ·have := HSZ.out
   omega
  ·exact .inr (Nat.le_refl _)
  ·exact Nat.le_succ _
  ·intro j hj hne
   exact (Below.heap_alloc _ _ j (by simp; omega)).trans ((Below.heap_setCell _ _ _ j hne).trans ((Below.heap_setCell _ _ _ j hne).trans (Below.heap_alloc _ _ j hj)))
  ·exact blk_alloc (blk_put (blk_put (heap_alloc_new (w5.drewN nd) _) 0 _ rfl) 1 _ rfl) _
  ·have := heap_alloc_new ((((w5.drewN nd).alloc (Obj.cells #[Value.slice none 0 0, Value.slice none 0 0] 26)).setCell ⟨w5.heap.size, 0, none⟩ (.slice B0 ds.length d0)).setCell ⟨w5.heap.size, 1, none⟩ (.slice (some ⟨w5.heap.size + 1, 0, none⟩) 0 m.toNat)) (.cells (madeCells #[.int .i64 0] m.toNat) 3)
   simpa using this
 ·refine hKx _ _ (shown_leaf n hn A2 A0 A1 B0 c2 c0 c1 d0 k w5.heap.size (w5.heap.size + 1) _ dt ds ss xs off base m w w5 _ _ _ _ _ _ _ _ _ HR.out HL.out HO0.out ?_ HSZ.out BD.out BV.out BR.out ?_ ?_ ?_ ?_ ?_ ?_ ?_)
  ·have := HS0.out
   show w.heap.size + 3 ≤ W0.heap.size
   omega
  ·exact below_alloc (below_set (below_set (pw_below_drewN (below_alloc HB.out _) nd) (by have := HSZ.out; omega)) (by have := HSZ.out; omega)) _
  ·have := HSZ.out
   omega
  ·exact .inr (Nat.le_refl _)
  ·exact Nat.le_succ _
  ·intro j hj hne
   exact (Below.heap_alloc _ _ j (by simp; omega)).trans ((Below.heap_setCell _ _ _ j hne).trans ((Below.heap_setCell _ _ _ j hne).trans (Below.heap_alloc _ _ j hj)))
  ·exact blk_alloc (blk_put (blk_put (blk_drewN (heap_alloc_new w5 _) nd) 0 _ rfl) 1 _ rfl) _
  ·have := heap_alloc_new ((((w5.alloc (Obj.cells #[Value.slice none 0 0, Value.slice none 0 0] 26)).drewN nd).setCell ⟨w5.heap.size, 0, none⟩ (.slice B0 ds.length d0)).setCell ⟨w5.heap.size, 1, none⟩ (.slice (some ⟨w5.heap.size + 1, 0, none⟩) 0 m.toNat)) (.cells (madeCells #[.int .i64 0] m.toNat) 3)
   simpa using this
 ·refine hKx _ _ (shown_leaf n hn A2 A0 A1 B0 c2 c0 c1 d0 k W0.heap.size w5.heap.size _ dt ds ss xs off base m w w5 _ _ _ _ _ _ _ _ _ HR.out HL.out HO0.out ?_ HSZ.out BD.out BV.out BR.out ?_ ?_ ?_ ?_ ?_ ?_ ?_)
  ·have := HS0.out
   simp
   omega
  ·exact below_set (below_set (below_alloc (pw_below_drewN HB.out nd) _) (by have := HS0.out; show w.heap.size ≤ W0.heap.size; omega)) (by have := HS0.out; show w.heap.size ≤ W0.heap.size; omega)
  ·have := HS0.out
   omega
  ·exact .inl (by simp)
  ·exact Nat.le_refl _
  ·intro j hj hne
   exact (Below.heap_setCell _ _ _ j hne).trans ((Below.heap_setCell _ _ _ j hne).trans (Below.heap_alloc _ _ j hj))
  ·exact blk_put (blk_put (blk_alloc (blk_drewN GF.out nd) _) 0 _ rfl) 1 _ rfl
  ·exact blk_far (blk_far (heap_alloc_new (w5.drewN nd) _) (fun e_ => hne3_ e_.symm) _) (fun e_ => hne3_ e_.symm) _
end
end

set_option maxHeartbeats 8000000 in
set_option maxRecDepth 100000 in
theorem impl_shown.calls (k : Nat) (A0 : Option Addr) (c0 : Nat) (l0 : List Int) (A1_0 : Option Addr) (c1_0 : Nat) (l1_0 : List Int) (A1_1 : Option Addr) (c1_1 : Nat) (l1_1 : List Int) (a1_2 : Int) (a1_3 : Int) (r1 : List Int) (r2 : List Int) (w : World) (hr0 : Kd.C (Kd.int .i64) w A0 l0.length l0) (hc0 : l0.length ≤ c0) (hr1_0 : Kd.C (Kd.int .i64) w A1_0 l1_0.length l1_0) (hc1_0 : l1_0.length ≤ c1_0) (hr1_1 : Kd.C (Kd.int .i64) w A1_1 l1_1.length l1_1) (hc1_1 : l1_1.length ≤ c1_1) (h : impl_shown.f k l0 l1_0 l1_1 a1_2 a1_3 = some (r1, r2)) :
  Calls Try.prog 51 #[.slice A0 l0.length c0, .agg #[.slice A1_0 l1_0.length c1_0, .slice A1_1 l1_1.length c1_1, .int .i64 a1_2, .int .i64 a1_3]] w fun e w' => ∃ v0_ v1_ : Value, e = .returned (.agg #[v0_, v1_]) ∧ Kd.R (Kd.int .i64) 3 w' w.heap.size (fun k_ => some k_ ≠ (v1_ : Value).ownBlock) v0_ r1 ∧ Kd.R (Kd.int .i64) 3 w' w.heap.size (fun k_ => some k_ ≠ (v0_ : Value).ownBlock) v1_ r2 ∧ Below w.heap.size w w' := by
 unfold impl_shown.f at h
 by_cases c1 : l1_0.length ≤ l1_1.length ∧ l1_0.length ≤ 1000
 ·rw [if_pos c1] at h
  obtain ⟨m, hm, hA⟩ := Option.bind_eq_some_iff.mp h
  by_cases c2 : 0 ≤ m ∧ m ≤ 1000000
  ·rw [if_pos c2] at hA
   obtain ⟨xs, hx, hC⟩ := Option.bind_eq_some_iff.mp hA
   by_cases c3 : xs.length ≤ 1000000 ∧ (∀ p ∈ xs, 0 ≤ p ∧ p < l0.length)
   ·rw [if_pos c3] at hC
    obtain ⟨rfl, rfl⟩ := Prod.mk.inj (Option.some.inj hC)
    exact (callsIn_wide (n := 3)).1 (shown_in 3 (Nat.le_refl _) _ _ _ _ _ _ k l0 l1_0 l1_1 xs a1_2 a1_3 m w hr0 hr1_0 hc1_0 hr1_1 c1.1 c1.2 hm c2.1 c2.2 hx c3.1 c3.2)
   ·rw [if_neg c3] at hC
    cases hC
  ·rw [if_neg c2] at hA
   cases hA
 ·rw [if_neg c1] at h
  cases h

end Go.Proofs.Ytcpemdedmepfeac.PFnExactLook
