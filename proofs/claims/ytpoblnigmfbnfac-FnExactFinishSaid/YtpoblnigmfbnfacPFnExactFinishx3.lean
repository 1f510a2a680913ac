-- Printed out of the translation, hand-written contracts beside it; checked by the kernel alone.
import Derived.Test.YtpoblnigmfbnfacPFnExactFinishx0
import Derived.Test.YtpoblnigmfbnfacPFnExactFinishx1
import Derived.Test.YtpoblnigmfbnfacPFnExactFinishx2
namespace Go.Proofs.Ytpoblnigmfbnfac.PFnExactFinish
open Go.RowKit Go.Proofs.YtpoblnigmfbnfacW.PrintWords Go.Proofs.YtpoblnigmfbnfacW.PrintLast Go.Proofs.YtpoblnigmfbnfacW.PrintMore
attribute [local go_sem] max2_int min2_int max_two min_two max_three min_three max_four min_four   -- for this text's walks alone
set_option linter.unusedVariables false
set_option linter.unusedSimpArgs false

/-! ### spec_Finish: function 39 -/
mutual
def spec_Finish.j0 : Nat → List (List (S92)) → Int → List Int → Bool → Option (List Int)
 | 0, _, _, _, _ => none
 | k + 1, x0, x1, x3, x26 => if x26 = true then (some (([] : List Int))) else (spec_Finish.l0 k x0 x1 x3 0)
def spec_Finish.l0 : Nat → List (List (S92)) → Int → List Int → Int → Option (List Int)
 | 0, _, _, _, _ => none
 | k + 1, x0, x1, x3, x9 => if x9 < x1 then (if 0 ≤ x9 then (if x9 < (x3.length : Int) then ((spec_l5In.f (rd x3 x9) 1 1000).bind fun t137 => (if t137 = true then (spec_Finish.l0 k x0 x1 x3 (wrap64 (x9 + 1))) else (some (([] : List Int))))) else (none)) else (none)) else (if 0 ≤ x1 then (if (x1 : Int).toNat ≤ 35184372088832 then (spec_Finish.l1 k x0 x3 (List.replicate (x1 : Int).toNat 0) 0) else (none)) else (none))
def spec_Finish.l1 : Nat → List (List (S92)) → List Int → List Int → Int → Option (List Int)
 | 0, _, _, _, _ => none
 | k + 1, x0, x3, x10, x11 => if x11 < (x0.length : Int) then ((spec_l3Ints.f x10).bind fun t144 => ((spec_l3Ints.f x10).bind fun t147 => (spec_Finish.l2 k x0 x3 x11 t144 t147 0))) else (some x10)
def spec_Finish.l2 : Nat → List (List (S92)) → List Int → Int → List Int → List Int → Int → Option (List Int)
 | 0, _, _, _, _, _, _ => none
 | k + 1, x0, x3, x11, x12, x13, x14 => if 0 ≤ x11 then (if x11 < (x0.length : Int) then (if x14 < ((rd_L5 x0 x11).length : Int) then (if 0 ≤ x14 then (if 0 ≤ ((rd_T92 (rd_L5 x0 x11) x14).f0) then (if ((rd_T92 (rd_L5 x0 x11) x14).f0) < (x12.length : Int) then (if ((rd_T92 (rd_L5 x0 x11) x14).f0) < (x3.length : Int) then ((some (x12.set (((rd_T92 (rd_L5 x0 x11) x14).f0) : Int).toNat (wrap64 ((rd x12 ((rd_T92 (rd_L5 x0 x11) x14).f0)) + (rd x3 ((rd_T92 (rd_L5 x0 x11) x14).f0)))) : List Int)).bind fun y156 => (if ((rd_T92 (rd_L5 x0 x11) x14).f0) < (x13.length : Int) then (if (rd y156 ((rd_T92 (rd_L5 x0 x11) x14).f0)) > (rd x13 ((rd_T92 (rd_L5 x0 x11) x14).f0)) then ((some (x13.set (((rd_T92 (rd_L5 x0 x11) x14).f0) : Int).toNat (rd y156 ((rd_T92 (rd_L5 x0 x11) x14).f0)) : List Int)).bind fun y160 => (if 0 ≤ ((rd_T92 (rd_L5 x0 x11) x14).f1) then (if ((rd_T92 (rd_L5 x0 x11) x14).f1) < (x13.length : Int) then (if (rd y156 ((rd_T92 (rd_L5 x0 x11) x14).f0)) > (rd y160 ((rd_T92 (rd_L5 x0 x11) x14).f1)) then (spec_Finish.l2 k x0 x3 x11 y156 (y160.set (((rd_T92 (rd_L5 x0 x11) x14).f1) : Int).toNat (rd y156 ((rd_T92 (rd_L5 x0 x11) x14).f0))) (wrap64 (x14 + 1))) else (spec_Finish.l2 k x0 x3 x11 y156 y160 (wrap64 (x14 + 1)))) else (none)) else (none))) else (if 0 ≤ ((rd_T92 (rd_L5 x0 x11) x14).f1) then (if ((rd_T92 (rd_L5 x0 x11) x14).f1) < (x13.length : Int) then (if (rd y156 ((rd_T92 (rd_L5 x0 x11) x14).f0)) > (rd x13 ((rd_T92 (rd_L5 x0 x11) x14).f1)) then (spec_Finish.l2 k x0 x3 x11 y156 (x13.set (((rd_T92 (rd_L5 x0 x11) x14).f1) : Int).toNat (rd y156 ((rd_T92 (rd_L5 x0 x11) x14).f0))) (wrap64 (x14 + 1))) else (spec_Finish.l2 k x0 x3 x11 y156 x13 (wrap64 (x14 + 1)))) else (none)) else (none))) else (none))) else (none)) else (none)) else (none)) else (none)) else (spec_Finish.l1 k x0 x3 x13 (wrap64 (x11 + 1)))) else (none)) else (none)
end
def spec_Finish.f (k : Nat) (l0 : List (List (S92))) (a1 : Int) (a2 : Int) (l3 : List Int) : Option (List Int) := (spec_MovesOk.f k l0 a1 a2).bind fun t132 => (if t132 = true then (spec_Finish.j0 k l0 a1 l3 ((l3.length : Int) != a1)) else (spec_Finish.j0 k l0 a1 l3 true))
theorem spec_Finish.mono_l : ∀ k, (∀ y0 y1 y2 y3, LeO (spec_Finish.j0 k y0 y1 y2 y3) (spec_Finish.j0 (k + 1) y0 y1 y2 y3)) ∧ (∀ y0 y1 y2 y3, LeO (spec_Finish.l0 k y0 y1 y2 y3) (spec_Finish.l0 (k + 1) y0 y1 y2 y3)) ∧ (∀ y0 y1 y2 y3, LeO (spec_Finish.l1 k y0 y1 y2 y3) (spec_Finish.l1 (k + 1) y0 y1 y2 y3)) ∧ (∀ y0 y1 y2 y3 y4 y5, LeO (spec_Finish.l2 k y0 y1 y2 y3 y4 y5) (spec_Finish.l2 (k + 1) y0 y1 y2 y3 y4 y5))
 | 0 => ⟨fun _ _ _ _ r h => by simp [spec_Finish.j0] at h, fun _ _ _ _ r h => by simp [spec_Finish.l0] at h, fun _ _ _ _ r h => by simp [spec_Finish.l1] at h, fun _ _ _ _ _ _ r h => by simp [spec_Finish.l2] at h⟩
 | k + 1 => by
  obtain ⟨ih0, ih1, ih2, ih3⟩ := spec_Finish.mono_l k
  refine ⟨?_, ?_, ?_, ?_⟩
  ·intro y0 y1 y2 y3
   unfold spec_Finish.j0
   repeat' first
   | (with_reducible exact ih0 _ _ _ _)
   | (with_reducible exact ih1 _ _ _ _)
   | (with_reducible exact ih2 _ _ _ _)
   | (with_reducible exact ih3 _ _ _ _ _ _)
   | (with_reducible exact spec_MovesOk.mono _ _ _ _)
   | (with_reducible exact LeO.refl _)
   | (with_reducible exact LeO.none _)
   | (with_reducible refine LeO.ite ?_ ?_)
   | (with_reducible refine LeO.bind ?_ (fun _ => ?_))
   | exact ih0 _ _ _ _
   | exact ih1 _ _ _ _
   | exact ih2 _ _ _ _
   | exact ih3 _ _ _ _ _ _
   | exact spec_MovesOk.mono _ _ _ _
   | exact LeO.none _
   | refine LeO.ite ?_ ?_
   | refine LeO.bind ?_ (fun _ => ?_)
  ·intro y0 y1 y2 y3
   unfold spec_Finish.l0
   repeat' first
   | (with_reducible exact ih0 _ _ _ _)
   | (with_reducible exact ih1 _ _ _ _)
   | (with_reducible exact ih2 _ _ _ _)
   | (with_reducible exact ih3 _ _ _ _ _ _)
   | (with_reducible exact spec_MovesOk.mono _ _ _ _)
   | (with_reducible exact LeO.refl _)
   | (with_reducible exact LeO.none _)
   | (with_reducible refine LeO.ite ?_ ?_)
   | (with_reducible refine LeO.bind ?_ (fun _ => ?_))
   | exact ih0 _ _ _ _
   | exact ih1 _ _ _ _
   | exact ih2 _ _ _ _
   | exact ih3 _ _ _ _ _ _
   | exact spec_MovesOk.mono _ _ _ _
   | exact LeO.none _
   | refine LeO.ite ?_ ?_
   | refine LeO.bind ?_ (fun _ => ?_)
  ·intro y0 y1 y2 y3
   unfold spec_Finish.l1
   repeat' first
   | (with_reducible exact ih0 _ _ _ _)
   | (with_reducible exact ih1 _ _ _ _)
   | (with_reducible exact ih2 _ _ _ _)
   | (with_reducible exact ih3 _ _ _ _ _ _)
   | (with_reducible exact spec_MovesOk.mono _ _ _ _)
   | (with_reducible exact LeO.refl _)
   | (with_reducible exact LeO.none _)
   | (with_reducible refine LeO.ite ?_ ?_)
   | (with_reducible refine LeO.bind ?_ (fun _ => ?_))
   | exact ih0 _ _ _ _
   | exact ih1 _ _ _ _
   | exact ih2 _ _ _ _
   | exact ih3 _ _ _ _ _ _
   | exact spec_MovesOk.mono _ _ _ _
   | exact LeO.none _
   | refine LeO.ite ?_ ?_
   | refine LeO.bind ?_ (fun _ => ?_)
  ·intro y0 y1 y2 y3 y4 y5
   unfold spec_Finish.l2
   repeat' first
   | (with_reducible exact ih0 _ _ _ _)
   | (with_reducible exact ih1 _ _ _ _)
   | (with_reducible exact ih2 _ _ _ _)
   | (with_reducible exact ih3 _ _ _ _ _ _)
   | (with_reducible exact spec_MovesOk.mono _ _ _ _)
   | (with_reducible exact LeO.refl _)
   | (with_reducible exact LeO.none _)
   | (with_reducible refine LeO.ite ?_ ?_)
   | (with_reducible refine LeO.bind ?_ (fun _ => ?_))
   | exact ih0 _ _ _ _
   | exact ih1 _ _ _ _
   | exact ih2 _ _ _ _
   | exact ih3 _ _ _ _ _ _
   | exact spec_MovesOk.mono _ _ _ _
   | exact LeO.none _
   | refine LeO.ite ?_ ?_
   | refine LeO.bind ?_ (fun _ => ?_)
theorem spec_Finish.mono : ∀ a0 a1 a2 a3 k, LeO (spec_Finish.f k a0 a1 a2 a3) (spec_Finish.f (k + 1) a0 a1 a2 a3) := by
 intro a0 a1 a2 a3 k
 obtain ⟨ih0, ih1, ih2, ih3⟩ := spec_Finish.mono_l k
 unfold spec_Finish.f
 repeat' first
   | (with_reducible exact ih0 _ _ _ _)
   | (with_reducible exact ih1 _ _ _ _)
   | (with_reducible exact ih2 _ _ _ _)
   | (with_reducible exact ih3 _ _ _ _ _ _)
   | (with_reducible exact spec_MovesOk.mono _ _ _ _)
   | (with_reducible exact LeO.refl _)
   | (with_reducible exact LeO.none _)
   | (with_reducible refine LeO.ite ?_ ?_)
   | (with_reducible refine LeO.bind ?_ (fun _ => ?_))
   | exact ih0 _ _ _ _
   | exact ih1 _ _ _ _
   | exact ih2 _ _ _ _
   | exact ih3 _ _ _ _ _ _
   | exact spec_MovesOk.mono _ _ _ _
   | exact LeO.none _
   | refine LeO.ite ?_ ?_
   | refine LeO.bind ?_ (fun _ => ?_)
def spec_Finish.T18 : Bool × List (List Nat × List Nat) := (true, [([], []), ([], []), ([1], [1]), ([], []), ([], []), ([4], [4]), ([3, 5], [3, 5]), ([6], [6]), ([], []), ([], []), ([9], [9]), ([8, 10], [8, 10]), ([11], [11]), ([7, 12], [7, 12]), ([0, 2, 0, 1, 2, 3, 4, 5, 6, 7, 8, 9, 10, 11, 12, 13], [0, 2]), ([14, 13, 0, 1, 2, 3, 4, 5, 6, 7, 8, 9, 10, 11, 12, 13], [13, 14])])
def spec_Finish.B18 : List Nat := [0, 0, 2, 0, 0, 16, 56, 120, 0, 0, 512, 1792, 3840, 8184, 16383, 32767]
theorem spec_Finish.tab18 : rtab .any (opsOf Try.f39 18) = spec_Finish.T18 := by kernel_rfl
theorem spec_Finish.bits18 : waitsOk spec_Finish.T18.2 spec_Finish.B18 = true := by kernel_rfl
def spec_Finish.T19 : Bool × List (List Nat × List Nat) := (true, [([], []), ([], []), ([1], [1]), ([0, 2], [0, 2]), ([3], [3]), ([], []), ([], []), ([6], [6]), ([5, 7], [5, 7]), ([8], [8]), ([4, 9], [4, 9])])
def spec_Finish.B19 : List Nat := [0, 0, 2, 7, 15, 0, 0, 64, 224, 480, 1023]
theorem spec_Finish.tab19 : rtab .any (opsOf Try.f39 19) = spec_Finish.T19 := by kernel_rfl
theorem spec_Finish.bits19 : waitsOk spec_Finish.T19.2 spec_Finish.B19 = true := by kernel_rfl
def spec_Finish.T20 : Bool × List (List Nat × List Nat) := (true, [([], []), ([], []), ([1], [1]), ([], []), ([], []), ([4], [4]), ([3, 5], [3, 5]), ([6], [6]), ([0, 2, 0, 1, 2, 3, 4, 5, 6, 7], [0, 2]), ([8, 7, 0, 1, 2, 3, 4, 5, 6, 7], [7, 8])])
def spec_Finish.B20 : List Nat := [0, 0, 2, 0, 0, 16, 56, 120, 255, 511]
theorem spec_Finish.tab20 : rtab .any (opsOf Try.f39 20) = spec_Finish.T20 := by kernel_rfl
theorem spec_Finish.bits20 : waitsOk spec_Finish.T20.2 spec_Finish.B20 = true := by kernel_rfl
def spec_Finish.T21 : Bool × List (List Nat × List Nat) := (true, [([], []), ([], []), ([1], [1]), ([0, 2], [0, 2]), ([3], [3]), ([], []), ([], []), ([6], [6]), ([5, 7], [5, 7]), ([8], [8]), ([4, 9], [4, 9])])
def spec_Finish.B21 : List Nat := [0, 0, 2, 7, 15, 0, 0, 64, 224, 480, 1023]
theorem spec_Finish.tab21 : rtab .any (opsOf Try.f39 21) = spec_Finish.T21 := by kernel_rfl
theorem spec_Finish.bits21 : waitsOk spec_Finish.T21.2 spec_Finish.B21 = true := by kernel_rfl
def spec_Finish.T22 : Bool × List (List Nat × List Nat) := (true, [([], []), ([], []), ([1], [1]), ([], []), ([], []), ([4], [4]), ([3, 5], [3, 5]), ([6], [6]), ([0, 2, 0, 1, 2, 3, 4, 5, 6, 7], [0, 2]), ([8, 7, 0, 1, 2, 3, 4, 5, 6, 7], [7, 8])])
def spec_Finish.B22 : List Nat := [0, 0, 2, 0, 0, 16, 56, 120, 255, 511]
theorem spec_Finish.tab22 : rtab .any (opsOf Try.f39 22) = spec_Finish.T22 := by kernel_rfl
theorem spec_Finish.bits22 : waitsOk spec_Finish.T22.2 spec_Finish.B22 = true := by kernel_rfl

instance up_refl (w : World) : Nonempty (Below w.heap.size w w) := ⟨Below.refl _ _⟩
instance up_alloc (w w' : World) [h : Nonempty (Below w.heap.size w w')] (o : Obj) : Nonempty (Below w.heap.size w (w'.alloc o)) := h.elim fun b => ⟨below_alloc b o⟩
instance up_drewN (w w' : World) [h : Nonempty (Below w.heap.size w w')] (n : Nat) : Nonempty (Below w.heap.size w (w'.drewN n)) := h.elim fun b => ⟨pw_below_drewN b n⟩
instance up_drew (w w' : World) [h : Nonempty (Below w.heap.size w w')] : Nonempty (Below w.heap.size w w'.drew) := h.elim fun b => ⟨below_drew1 b⟩
theorem upB (w w' : World) [h : Nonempty (Below w.heap.size w w')] : Below w.heap.size w w' := h.elim id
theorem Ru {α : Type} {d : Kd α} {e base : Nat} {ok : Nat → Prop} {w w' : World} {v : Value} {xs : List α} [Nonempty (Below w.heap.size w w')] (h : d.R e w base ok v xs) : d.R e w' base ok v xs := Kd.R_below h (upB w w')
theorem Cu {α : Type} {d : Kd α} {n : Nat} {w w' : World} {A : Option Addr} {xs : List α} [Nonempty (Below w.heap.size w w')] (h : d.C w A n xs) : d.C w' A n xs := Kd.C_below h (upB w w')
theorem Bu {w w' : World} {g : Nat} {o : Obj} [Nonempty (Below w.heap.size w w')] (h : w.heap[g]? = some o) : w'.heap[g]? = some o := blk_below h (upB w w')
theorem Hu {w0 w w' : World} [Nonempty (Below w.heap.size w w')] (h : Below w0.heap.size w0 w) : Below w0.heap.size w0 w' := h.trans ((upB w w').mono h.size)
theorem Rt1 {α β : Type} {d : Kd α} {d1 : Kd β} {e e1 base : Nat} {ok ok1 : Nat → Prop} {w W w1 : World} {v v1 : Value} {xs : List α} {ys : List β} [Nonempty (Below w.heap.size w W)] (h : d.R e w base ok v xs) (hb : Below W.heap.size W w1) (h0 : d1.R e1 w1 W.heap.size ok1 v1 ys) : d.R e w1 base (fun k => ok k ∧ some k ≠ v1.ownBlock) v xs := Kd.R_mono (Kd.R_told (Kd.R_old (Ru (w' := W) h) hb) (Kd.R_base h0)) (fun _ h_ => h_.1)
theorem Rt2 {α β γ : Type} {d : Kd α} {d1 : Kd β} {d2 : Kd γ} {e e1 e2 base : Nat} {ok ok1 ok2 : Nat → Prop} {w W w1 : World} {v v1 v2 : Value} {xs : List α} {ys : List β} {zs : List γ} [Nonempty (Below w.heap.size w W)] (h : d.R e w base ok v xs) (hb : Below W.heap.size W w1) (h0 : d1.R e1 w1 W.heap.size ok1 v1 ys) (h1 : d2.R e2 w1 W.heap.size ok2 v2 zs) : d.R e w1 base (fun k => (ok k ∧ some k ≠ v1.ownBlock) ∧ some k ≠ v2.ownBlock) v xs := Kd.R_mono (Kd.R_told (Kd.R_told (Kd.R_old (Ru (w' := W) h) hb) (Kd.R_base h0)) (Kd.R_base h1)) (fun _ h_ => h_.1)
theorem Rb {α : Type} {d : Kd α} {e base : Nat} {ok : Nat → Prop} {w W w1 : World} {v : Value} {xs : List α} [Nonempty (Below w.heap.size w W)] (h : d.R e w base ok v xs) (hb : Below W.heap.size W w1) : d.R e w1 base ok v xs := Kd.R_below (Ru (w' := W) h) hb
theorem HBs {w0 w : World} {g i : Nat} {u : Value} (h : Below w0.heap.size w0 w) (hg : Aside0 (w0.heap.size ≤ g)) : Below w0.heap.size w0 (w.setCell ⟨g, i, none⟩ u) := below_set h hg.out
theorem HBu {w0 w w' : World} (h : Below w0.heap.size w0 w) (k : Below w0.heap.size w0 w → Below w0.heap.size w0 w' := by intro h_; repeat (first | (with_reducible first | exact h_ | apply below_alloc | apply pw_below_drewN | apply below_drew1) | refine HBs ?_ (by assumption) | exact h_)) : Below w0.heap.size w0 w' := k h
theorem Rf2 {α : Type} {d : Kd α} {e base : Nat} {ok : Nat → Prop} {w : World} {v : Value} {xs : List α} (h : d.R e w base ok v xs) {g t : Nat} {cells : Array Value} (hb : w.heap[g]? = some (.cells cells t (0, 0))) (ht : ∀ q, q ∈ e :: d.E → q ≠ t) (a b : Value) : d.R e ((w.setCell ⟨g, 0, none⟩ a).setCell ⟨g, 1, none⟩ b) base ok v xs := Kd.R_mono (Kd.R_far (p := ⟨g, 1, none⟩) (Kd.R_far (p := ⟨g, 0, none⟩) (Kd.R_types h hb ht) (fun _ hk => hk.2) a) (fun _ hk => hk.2) b) (fun _ h_ => h_.1)
theorem Rf4 {α : Type} {d : Kd α} {e base : Nat} {ok : Nat → Prop} {w : World} {v : Value} {xs : List α} (h : d.R e w base ok v xs) {g t : Nat} {cells : Array Value} (hb : w.heap[g]? = some (.cells cells t (0, 0))) (ht : ∀ q, q ∈ e :: d.E → q ≠ t) (a b c f : Value) : d.R e ((((w.setCell ⟨g, 0, none⟩ a).setCell ⟨g, 1, none⟩ b).setCell ⟨g, 2, none⟩ c).setCell ⟨g, 3, none⟩ f) base ok v xs := Kd.R_mono (Kd.R_far (p := ⟨g, 3, none⟩) (Kd.R_far (p := ⟨g, 2, none⟩) (Kd.R_far (p := ⟨g, 1, none⟩) (Kd.R_far (p := ⟨g, 0, none⟩) (Kd.R_types h hb ht) (fun _ hk => hk.2) a) (fun _ hk => hk.2) b) (fun _ hk => hk.2) c) (fun _ hk => hk.2) f) (fun _ h_ => h_.1)
theorem Bb {w W w1 : World} {g : Nat} {o : Obj} [Nonempty (Below w.heap.size w W)] (h : w.heap[g]? = some o) (hb : Below W.heap.size W w1) : w1.heap[g]? = some o := blk_below (Bu (w' := W) h) hb

theorem Ω1 : type_of% @Kd.R_alloc := @Kd.R_alloc
theorem Ω2 : type_of% @Kd.R_drewN := @Kd.R_drewN
theorem Ω3 : type_of% @Kd.R_drew := @Kd.R_drew
theorem Ω4 : type_of% @Kd.R_far := @Kd.R_far
theorem Ω5 : type_of% @Aside0.mk := @Aside0.mk
theorem Ω8 : type_of% @below_drew1 := @below_drew1
theorem ΩA : type_of% @blk_drewN := @blk_drewN
theorem ΩB : type_of% @blk_alloc := @blk_alloc
theorem ΩC : type_of% @blk_drew := @blk_drew
theorem ΩE : type_of% @Kd.R_mono := @Kd.R_mono
theorem ΩF : type_of% @blk_frozen := @blk_frozen
theorem ΩJ : type_of% @blk_cell := @blk_cell
set_option maxHeartbeats 8000000 in
set_option maxRecDepth 100000 in
theorem spec_Finish.calls (k : Nat) (A0 : Option Addr) (c0 : Nat) (l0 : List (List (S92))) (a1 : Int) (a2 : Int) (A3 : Option Addr) (c3 : Nat) (l3 : List Int) (r : List Int) (w : World) (hr0 : Kd.C (Kd.slice 92 k92) w A0 l0.length l0) (hc0 : l0.length ≤ c0) (hr3 : Kd.C (Kd.int .i64) w A3 l3.length l3) (hc3 : l3.length ≤ c3) (h : spec_Finish.f k l0 a1 a2 l3 = some r) :
  Calls Try.prog 39 #[.slice A0 l0.length c0, .int .i64 a1, .int .i64 a2, .slice A3 l3.length c3] w fun e w' => ∃ v0_ : Value, e = .returned (v0_) ∧ Kd.R (Kd.int .i64) 3 w' w.heap.size (fun _ => True) v0_ r ∧ Below w.heap.size w w' := by
 have hu92 := Try.underlying92
 have HR0 := Ω5 hr0
 have HC0 := Ω5 hc0
 clear hr0 hc0
 have HR3 := Ω5 hr3
 have HC3 := Ω5 hc3
 clear hr3 hc3
 have HB := Ω5 (Below.refl w.heap.size w)
 have H : ((spec_MovesOk.f k l0 a1 a2).bind fun t132 => (if t132 = true then (spec_Finish.j0 k l0 a1 l3 ((l3.length : Int) != a1)) else (spec_Finish.j0 k l0 a1 l3 true))) = some r := h
 clear h
 have HC5 := Ω5 H
 clear H
 go_enter Try.func39, Try.ntmps39
 go_upto_region 1 with (fail)
 go_cut [26] (fun v26 wc => ∃ (kq : Nat) (x26_4 : Bool), v26 = .bool x26_4 ∧ Aside0 (spec_Finish.j0 kq l0 a1 l3 x26_4 = some r) ∧ Aside0 (kq ≤ k) ∧ Aside0 (Below w.heap.size w wc))
 case first =>
  have H := HC5.out
  clear HC5
  replace H := Option.bind_eq_some_iff.mp H
  obtain ⟨t132, A60, H⟩ := H
  try dsimp only at H
  have A6 := Ω5 A60
  clear A60
  by_cases c7 : t132 = true
  ·subst c7
   have H1 : (spec_Finish.j0 k l0 a1 l3 ((l3.length : Int) != a1)) = some r := by rw [if_pos rfl] at H; exact H
   clear H
   have H := H1
   clear H1
   have H' := Ω5 H
   clear H
   go_wp2_with (first | ((with_reducible refine gate_callee (f := 72) rfl ?_); refine goesL_ (some 19) rfl rfl Try.func72 (by kernel_rfl) rfl #[.slice A0 l0.length c0, .int .i64 a1, .int .i64 a2] rfl (by (try simp only [List.map_toArray, List.map_cons, List.map_nil]); first | done | rfl | (simp only [List.length_drop, List.length_take]; rfl)) ?_; (with_reducible refine (spec_MovesOk.calls k _ _ l0 a1 a2 true _ ?side1 ?side2 A6.out).mono ?_); (case side1 => exact (Cu ((Kd.C_below HR0.out HB.out)))); (case side2 => exact HC0.out); rintro e w8 ⟨rfl, hb⟩; refine ⟨_, rfl, ?_⟩; replace HB := Ω5 (below_step (Hu HB.out) hb); (try clear hb); (try clear hb2); (try clear hk); (try clear hi)))
   go_meet
   case rel => exact ⟨_, (((l3.length : Int) != a1)), (by first | rfl | (simp; done) | (simp [*]; done)), H', ⟨by first | omega | exact Nat.le_refl _⟩, ⟨HBu HB.out⟩⟩
  ·replace c7 := Bool.eq_false_iff.mpr c7
   subst c7
   have H1 : (spec_Finish.j0 k l0 a1 l3 true) = some r := by rw [if_neg (show ¬ (false = true) by decide)] at H; exact H
   clear H
   have H := H1
   clear H1
   have H' := Ω5 H
   clear H
   go_wp2_with (first | ((with_reducible refine gate_callee (f := 72) rfl ?_); refine goesL_ (some 19) rfl rfl Try.func72 (by kernel_rfl) rfl #[.slice A0 l0.length c0, .int .i64 a1, .int .i64 a2] rfl (by (try simp only [List.map_toArray, List.map_cons, List.map_nil]); first | done | rfl | (simp only [List.length_drop, List.length_take]; rfl)) ?_; (with_reducible refine (spec_MovesOk.calls k _ _ l0 a1 a2 false _ ?side1 ?side2 A6.out).mono ?_); (case side1 => exact (Cu ((Kd.C_below HR0.out HB.out)))); (case side2 => exact HC0.out); rintro e w9 ⟨rfl, hb⟩; refine ⟨_, rfl, ?_⟩; replace HB := Ω5 (below_step (Hu HB.out) hb); (try clear hb); (try clear hb2); (try clear hk); (try clear hi)))
   go_meet
   case rel => exact ⟨_, (true), (by first | rfl | (simp; done) | (simp [*]; done)), H', ⟨by first | omega | exact Nat.le_refl _⟩, ⟨HBu HB.out⟩⟩
 case rest =>
  clear HC5
  try clear p2
  try clear c3
  try clear c7
  obtain ⟨kq, x26_4, rfl, HA, HJ4, HB⟩ := hcut
  cases kq with
  | zero => exact absurd HA.out (by simp [spec_Finish.j0])
  | succ kj4 =>
   have H := HA.out
   clear HA
   simp only [spec_Finish.j0] at H
   by_cases c10 : x26_4 = true
   ·subst c10
    have H1 : (some (([] : List Int))) = some r := by rw [if_pos rfl] at H; exact H
    clear H
    have H := H1
    clear H1
    obtain ⟨y133, hy133⟩ : ∃ y_ : List Int, y_ = (([] : List Int)) := ⟨_, rfl⟩
    replace H : (some y133) = some r := by first | (rw [hy133]; with_reducible exact H) | (have H2_ := (Option.bind_some _ _).symm.trans H; rw [hy133]; with_reducible exact H2_) | (have H2_ := (Option.bind_some _ _).symm.trans H; with_reducible exact H2_) | with_reducible exact H | (rw [hy133]; exact H) | exact H
    have Ny133 := Ω5 hy133
    clear hy133
    obtain rfl := Option.some.inj H
    go_wp2_with (first | ((with_reducible refine gate_dst (N := 27) rfl ?_); (try (refine gate_guard (by rfl) ?_; dsimp only)); refine Kd.R_lit (Kd.int .i64) _ 3 ?hg (N := 27) ?hd (xs := ([] : List Int)) (inner := []) (ok := fun _ => True) (okp := fun _ => True) ?hr ?hp (fun _ hk => hk) trivial (Below.refl _ _) (Nat.le_refl _) (by simp) ?_; (case hd => rfl); (case hg => rfl); (case hr => first | (go_simp; done) | (go_simp; rfl)); (case hp => exact (Reps.none _ _)); intro v134 w11 ho12 hb hg_ hnew_; clear hg_ hnew_; (first | rw [← Ny133.out] at ho12 | (simp only [Int.reduceToNat] at ho12; rw [← Ny133.out] at ho12)); have HO135 := Ω5 (Kd.R_lower ho12 (below_size (Hu HB.out))); replace HB := Ω5 (below_step (Hu HB.out) hb); clear hb ho12))
    go_ret
    exact ⟨_, by first | rfl | (simp [errW_none, errW_some] <;> rfl) | (simp [*, errW_none, errW_some] <;> rfl), by (with_reducible repeat (first | apply Ω1 | apply Ω2 | apply Ω3)); exact HO135.out, HBu HB.out⟩
   ·replace c10 := Bool.eq_false_iff.mpr c10
    subst c10
    have H1 : (spec_Finish.l0 kj4 l0 a1 l3 0) = some r := by rw [if_neg (show ¬ (false = true) by decide)] at H; exact H
    clear H
    have H := H1
    clear H1
    have H' := Ω5 H
    clear H
    go_wp2
    go_loopg [9] kj4 (fun kq v9 w' => ∃ (x9_2 : Int), v9 = .int .i64 x9_2 ∧ Aside0 (spec_Finish.l0 kq l0 a1 l3 x9_2 = some r) ∧ Aside0 (kq ≤ kj4) ∧ Aside0 (Below w.heap.size w w'))
    case atStart => exact ⟨(0), (by first | rfl | (simp; done) | (simp [*]; done)), H', ⟨Nat.le_refl _⟩, ⟨HBu HB.out⟩⟩
    case round =>
     clear H'
     try clear c1
     try clear p2
     try clear c3
     try clear c7
     try clear c10
     try clear p2
     obtain ⟨x9_2, rfl, HA, HK2, HB⟩ := hrel
     cases gk with
     | zero => exact absurd HA.out (by simp [spec_Finish.l0])
     | succ k2 =>
      have H := HA.out
      clear HA
      simp only [spec_Finish.l0] at H
      by_cases c13 : x9_2 < a1
      ·rw [if_pos c13] at H
       have c13b0 : decide (x9_2 < a1) = true := decide_eq_true c13
       clear c13
       by_cases c14 : 0 ≤ x9_2
       ·rw [if_pos c14] at H
        have c14b0 : decide (0 ≤ x9_2) = true := decide_eq_true c14
        clear c14
        by_cases c15 : x9_2 < (l3.length : Int)
        ·rw [if_pos c15] at H
         have c15b0 : decide (x9_2 < (l3.length : Int)) = true := decide_eq_true c15
         clear c15
         replace H := Option.bind_eq_some_iff.mp H
         obtain ⟨t137, A160, H⟩ := H
         try dsimp only at H
         have A16 := Ω5 A160
         clear A160
         by_cases c17 : t137 = true
         ·subst c17
          have H1 : (spec_Finish.l0 k2 l0 a1 l3 (wrap64 (x9_2 + 1))) = some r := by rw [if_pos rfl] at H; exact H
          clear H
          have H := H1
          clear H1
          have H' := Ω5 H
          clear H
          have p136 : 0 ≤ (x9_2 : Int) := of_decide_eq_true (by first | (with_reducible assumption) | assumption)
          have q136 : x9_2 < (l3.length : Int) := of_decide_eq_true (by first | (with_reducible assumption) | assumption)
          obtain ⟨ad136, e136, hx136_0⟩ := Kd.at_int HR3.out x9_2 p136 q136
          cases e136
          replace hx136_0 := (HB.out.cell (World.block_lt_of_cell? w _ hx136_0)).trans hx136_0
          replace p136 := eq_true p136
          replace q136 := eq_true q136
          go_wp2_with (first | ((with_reducible refine gate_callee (f := 61) rfl ?_); refine goesL_ (some 37) rfl rfl Try.func61 (by kernel_rfl) rfl #[.int .i64 (rd l3 x9_2), .int .i64 1, .int .i64 1000] rfl (by (try simp only [List.map_toArray, List.map_cons, List.map_nil]); first | done | rfl | (simp only [List.length_drop, List.length_take]; rfl)) ?_; (with_reducible refine (spec_l5In.calls (rd l3 x9_2) 1 1000 true _ A16.out).mono ?_); rintro e w' ⟨rfl, ⟨nd, rfl⟩⟩; refine ⟨_, rfl, ?_⟩))
          go_roundg k2
          case measure => have := HJ4.out; have := HK2.out; omega
          case rel => exact ⟨(wrap64 (x9_2 + 1)), (by first | rfl | (simp; done) | (simp [*]; done)), H', ⟨by have := HJ4.out; have := HK2.out; omega⟩, ⟨HBu HB.out⟩⟩
         ·replace c17 := Bool.eq_false_iff.mpr c17
          subst c17
          have H1 : (some (([] : List Int))) = some r := by rw [if_neg (show ¬ (false = true) by decide)] at H; exact H
          clear H
          have H := H1
          clear H1
          obtain ⟨y138, hy138⟩ : ∃ y_ : List Int, y_ = (([] : List Int)) := ⟨_, rfl⟩
          replace H : (some y138) = some r := by first | (rw [hy138]; with_reducible exact H) | (have H2_ := (Option.bind_some _ _).symm.trans H; rw [hy138]; with_reducible exact H2_) | (have H2_ := (Option.bind_some _ _).symm.trans H; with_reducible exact H2_) | with_reducible exact H | (rw [hy138]; exact H) | exact H
          have Ny138 := Ω5 hy138
          clear hy138
          obtain rfl := Option.some.inj H
          have p136 : 0 ≤ (x9_2 : Int) := of_decide_eq_true (by first | (with_reducible assumption) | assumption)
          have q136 : x9_2 < (l3.length : Int) := of_decide_eq_true (by first | (with_reducible assumption) | assumption)
          obtain ⟨ad136, e136, hx136_0⟩ := Kd.at_int HR3.out x9_2 p136 q136
          cases e136
          replace hx136_0 := (HB.out.cell (World.block_lt_of_cell? w _ hx136_0)).trans hx136_0
          replace p136 := eq_true p136
          replace q136 := eq_true q136
          go_wp2_with (first | ((with_reducible refine gate_callee (f := 61) rfl ?_); refine goesL_ (some 37) rfl rfl Try.func61 (by kernel_rfl) rfl #[.int .i64 (rd l3 x9_2), .int .i64 1, .int .i64 1000] rfl (by (try simp only [List.map_toArray, List.map_cons, List.map_nil]); first | done | rfl | (simp only [List.length_drop, List.length_take]; rfl)) ?_; (with_reducible refine (spec_l5In.calls (rd l3 x9_2) 1 1000 false _ A16.out).mono ?_); rintro e w' ⟨rfl, ⟨nd, rfl⟩⟩; refine ⟨_, rfl, ?_⟩) | ((with_reducible refine gate_dst (N := 39) rfl ?_); (try (refine gate_guard (by rfl) ?_; dsimp only)); refine Kd.R_lit (Kd.int .i64) _ 3 ?hg (N := 39) ?hd (xs := ([] : List Int)) (inner := []) (ok := fun _ => True) (okp := fun _ => True) ?hr ?hp (fun _ hk => hk) trivial (Below.refl _ _) (Nat.le_refl _) (by simp) ?_; (case hd => rfl); (case hg => rfl); (case hr => first | (go_simp; done) | (go_simp; rfl)); (case hp => exact (Reps.none _ _)); intro v139 w18 ho19 hb hg_ hnew_; clear hg_ hnew_; (first | rw [← Ny138.out] at ho19 | (simp only [Int.reduceToNat] at ho19; rw [← Ny138.out] at ho19)); have HO140 := Ω5 (Kd.R_lower ho19 (below_size (Hu HB.out))); replace HB := Ω5 (below_step (Hu HB.out) hb); clear hb ho19))
          go_ret
          exact ⟨_, by first | rfl | (simp [errW_none, errW_some] <;> rfl) | (simp [*, errW_none, errW_some] <;> rfl), by (with_reducible repeat (first | apply Ω1 | apply Ω2 | apply Ω3)); exact HO140.out, HBu HB.out⟩
        ·rw [if_neg c15] at H
         exact absurd H (by simp)
       ·rw [if_neg c14] at H
        exact absurd H (by simp)
      ·rw [if_neg c13] at H
       have c13b0 : decide (x9_2 < a1) = false := decide_eq_false c13
       clear c13
       by_cases c20 : 0 ≤ a1
       ·rw [if_pos c20] at H
        have c20b0 := eq_true c20
        have c20b1 : decide (0 ≤ a1) = true := decide_eq_true c20
        clear c20
        by_cases c21 : (a1 : Int).toNat ≤ 35184372088832
        ·rw [if_pos c21] at H
         have c21b0 := eq_true c21
         have c21b1 : decide ((a1 : Int).toNat ≤ 35184372088832) = true := decide_eq_true c21
         clear c21
         obtain ⟨y141, hy141⟩ : ∃ y_ : List Int, y_ = (List.replicate (a1 : Int).toNat 0) := ⟨_, rfl⟩
         replace H : (spec_Finish.l1 k2 l0 l3 y141 0) = some r := by first | (rw [hy141]; with_reducible exact H) | (have H2_ := (Option.bind_some _ _).symm.trans H; rw [hy141]; with_reducible exact H2_) | (have H2_ := (Option.bind_some _ _).symm.trans H; with_reducible exact H2_) | with_reducible exact H | (rw [hy141]; exact H) | exact H
         have Ny141 := Ω5 hy141
         clear hy141
         have H' := Ω5 H
         clear H
         go_wp2_with (first | ((with_reducible refine gate_dst (N := 41) rfl ?_); (try (refine gate_guard (by rfl) ?_; dsimp only)); refine Kd.R_make (Kd.int .i64) _ 3 rfl (N := 41) rfl 22 _ _ rfl a1 rfl rfl Try.underlying22 (.int .i64 0) 8 info3 rfl (by decide) (by omega) 0 (ok := fun _ => True) (okp := fun _ => True) rfl (fun _ hk => hk) trivial (of_decide_eq_true (by first | (with_reducible assumption) | assumption)) (Nat.le_trans (Nat.mul_le_mul_right _ (of_decide_eq_true (by first | (with_reducible assumption) | assumption) : a1.toNat ≤ 35184372088832)) (by omega)) (Below.refl _ _) (Nat.le_refl _) ?_; intro v142 w22 ho23 hb hg_ hnew_; clear hg_ hnew_; (first | rw [← Ny141.out] at ho23 | (simp only [Int.reduceToNat] at ho23; rw [← Ny141.out] at ho23)); have HO143 := Ω5 (Kd.R_lower ho23 (below_size (Hu HB.out))); replace HB := Ω5 (below_step (Hu HB.out) hb); clear hb ho23))
         go_loopg [10, 11] k2 (fun kq v10 v11 w' => ∃ (x10_3 : List Int) (x11_3 : Int), v11 = .int .i64 x11_3 ∧ Aside0 (spec_Finish.l1 kq l0 l3 x10_3 x11_3 = some r) ∧ Aside0 (kq ≤ k2) ∧ Aside0 (Kd.R (Kd.int .i64) 3 w' w.heap.size (fun _ => True) v10 x10_3) ∧ Aside0 (Below w.heap.size w w'))
         case atStart => exact ⟨(y141), (0), (by first | rfl | (simp; done) | (simp [*]; done)), H', ⟨Nat.le_refl _⟩, ⟨by (with_reducible repeat (first | apply Ω1 | apply Ω2 | apply Ω3)); exact HO143.out⟩, ⟨HBu HB.out⟩⟩
         case round =>
          clear H'
          try clear c1
          try clear p1
          try clear q1
          try clear hx1
          try clear c2
          try clear p2
          try clear c3
          try clear c6
          try clear p6
          try clear c7
          try clear c10
          try clear c13
          try clear c13b0
          try clear p13
          try clear q13
          try clear hx13
          try clear c14
          try clear c14b0
          try clear c15
          try clear c15b0
          try clear c17
          try clear c20
          try clear c20b0
          try clear c20b1
          try clear c21
          try clear c21b0
          try clear c21b1
          try clear hx136_0
          try clear p136
          try clear p2
          try clear q136
          obtain ⟨x10_3, x11_3, rfl, HA, HK3, HO_10, HB⟩ := hrel
          cases gk with
          | zero => exact absurd HA.out (by simp [spec_Finish.l1])
          | succ k3 =>
           have H := HA.out
           clear HA
           simp only [spec_Finish.l1] at H
           by_cases c24 : x11_3 < (l0.length : Int)
           ·rw [if_pos c24] at H
            have c24b0 : decide (x11_3 < (l0.length : Int)) = true := decide_eq_true c24
            clear c24
            replace H := Option.bind_eq_some_iff.mp H
            obtain ⟨t144, A250, H⟩ := H
            try dsimp only at H
            have A25 := Ω5 A250
            clear A250
            replace H := Option.bind_eq_some_iff.mp H
            obtain ⟨t147, A260, H⟩ := H
            try dsimp only at H
            have A26 := Ω5 A260
            clear A260
            have H' := Ω5 H
            clear H
            obtain ⟨Ao27, co27, eo27⟩ := Kd.R_slice HO_10.out
            subst eo27
            go_wp2_with (first | ((with_reducible refine gate_callee (f := 49) rfl ?_); refine goesL_ (some 49) rfl rfl Try.func49 (by kernel_rfl) rfl #[.slice Ao27 x10_3.length co27] rfl (by (try simp only [List.map_toArray, List.map_cons, List.map_nil]); first | done | rfl | (simp only [List.length_drop, List.length_take]; rfl)) ?_; (with_reducible refine (spec_l3Ints.calls _ _ x10_3 t144 _ ?side1 ?side2 A25.out).mono ?_); (case side1 => exact (Cu ((Kd.R_reads' HO_10.out).2.2))); (case side2 => exact (Kd.R_reads' HO_10.out).2.1); rintro e w28 ⟨v145, rfl, ho0, hb⟩; refine ⟨_, rfl, ?_⟩; have HO146 := Ω5 (Kd.R_lower (Kd.R_new' ho0 (Kd.R_lt (Ru HO_10.out))) (below_size (Hu HB.out))); replace HO_10 := Ω5 (Kd.R_elder' (Ru HO_10.out) (Kd.R_base ho0) hb); replace HB := Ω5 (below_step (Hu HB.out) hb); (try clear hb); (try clear hb2); (try clear hk); (try clear hi); (try clear ho0)) | ((with_reducible refine gate_callee (f := 49) rfl ?_); refine goesL_ (some 51) rfl rfl Try.func49 (by kernel_rfl) rfl #[.slice Ao27 x10_3.length co27] rfl (by (try simp only [List.map_toArray, List.map_cons, List.map_nil]); first | done | rfl | (simp only [List.length_drop, List.length_take]; rfl)) ?_; (with_reducible refine (spec_l3Ints.calls _ _ x10_3 t147 _ ?side1 ?side2 A26.out).mono ?_); (case side1 => exact (Cu ((Kd.R_reads' HO_10.out).2.2))); (case side2 => exact (Kd.R_reads' HO_10.out).2.1); rintro e w29 ⟨v148, rfl, ho0, hb⟩; refine ⟨_, rfl, ?_⟩; have HO149 := Ω5 (Kd.R_lower (Kd.R_new' (Kd.R_new' ho0 (Kd.R_lt (Ru HO_10.out))) (Kd.R_lt (Ru HO146.out))) (below_size (Hu HB.out))); replace HO_10 := Ω5 (Kd.R_elder' (Ru HO_10.out) (Kd.R_base ho0) hb); replace HO146 := Ω5 (Kd.R_elder' (Ru HO146.out) (Kd.R_base ho0) hb); replace HB := Ω5 (below_step (Hu HB.out) hb); (try clear hb); (try clear hb2); (try clear hk); (try clear hi); (try clear ho0)))
            go_loopg [14] k3 (fun kq v14 w' => ∃ (x12_4 : List Int) (x13_4 : List Int) (x14_4 : Int), v14 = .int .i64 x14_4 ∧ Aside0 (spec_Finish.l2 kq l0 l3 x11_3 x12_4 x13_4 x14_4 = some r) ∧ Aside0 (kq ≤ k3) ∧ Aside0 (Kd.R (Kd.int .i64) 3 w' w.heap.size (fun k_ => some k_ ≠ (v148 : Value).ownBlock) v145 x12_4) ∧ Aside0 (Kd.R (Kd.int .i64) 3 w' w.heap.size (fun k_ => some k_ ≠ (v145 : Value).ownBlock) v148 x13_4) ∧ Aside0 (Below w.heap.size w w'))
            case atStart => exact ⟨(t144), (t147), (0), (by first | rfl | (simp; done) | (simp [*]; done)), H', ⟨Nat.le_refl _⟩, ⟨by (with_reducible repeat (first | apply Ω1 | apply Ω2 | apply Ω3)); exact ΩE HO146.out (fun _ hk => hk.2)⟩, ⟨by (with_reducible repeat (first | apply Ω1 | apply Ω2 | apply Ω3)); exact ΩE HO149.out (fun _ hk => hk.2)⟩, ⟨HBu HB.out⟩⟩
            case round =>
             clear H'
             try clear c1
             try clear p1
             try clear q1
             try clear hx1
             try clear c2
             try clear p2
             try clear c3
             try clear c4
             try clear c6
             try clear p6
             try clear c7
             try clear c10
             try clear c13
             try clear c13b0
             try clear p13
             try clear q13
             try clear hx13
             try clear c14
             try clear c14b0
             try clear c15
             try clear c15b0
             try clear c17
             try clear c20
             try clear c20b0
             try clear c20b1
             try clear c21
             try clear c21b0
             try clear c21b1
             try clear c24
             try clear c24b0
             try clear hx136_0
             try clear p1
             try clear p13
             try clear p136
             try clear p2
             try clear p6
             try clear q1
             try clear q13
             try clear q136
             obtain ⟨x12_4, x13_4, x14_4, rfl, HA, HK4, HO_12, HO_13, HB⟩ := hrel
             cases gk with
             | zero => exact absurd HA.out (by simp [spec_Finish.l2])
             | succ k4 =>
              have H := HA.out
              clear HA
              simp only [spec_Finish.l2] at H
              by_cases c30 : 0 ≤ x11_3
              ·rw [if_pos c30] at H
               have c30b0 : decide (0 ≤ x11_3) = true := decide_eq_true c30
               clear c30
               by_cases c31 : x11_3 < (l0.length : Int)
               ·rw [if_pos c31] at H
                have c31b0 : decide (x11_3 < (l0.length : Int)) = true := decide_eq_true c31
                clear c31
                by_cases c32 : x14_4 < ((rd_L5 l0 x11_3).length : Int)
                ·rw [if_pos c32] at H
                 have c32b0 : decide (x14_4 < ((rd_L5 l0 x11_3).length : Int)) = true := decide_eq_true c32
                 clear c32
                 by_cases c33 : 0 ≤ x14_4
                 ·rw [if_pos c33] at H
                  have c33b0 : decide (0 ≤ x14_4) = true := decide_eq_true c33
                  clear c33
                  by_cases c34 : 0 ≤ ((rd_T92 (rd_L5 l0 x11_3) x14_4).f0)
                  ·rw [if_pos c34] at H
                   have c34b0 : decide (0 ≤ ((rd_T92 (rd_L5 l0 x11_3) x14_4).f0)) = true := decide_eq_true c34
                   clear c34
                   by_cases c35 : ((rd_T92 (rd_L5 l0 x11_3) x14_4).f0) < (x12_4.length : Int)
                   ·rw [if_pos c35] at H
                    have c35b0 : decide (((rd_T92 (rd_L5 l0 x11_3) x14_4).f0) < (x12_4.length : Int)) = true := decide_eq_true c35
                    clear c35
                    by_cases c36 : ((rd_T92 (rd_L5 l0 x11_3) x14_4).f0) < (l3.length : Int)
                    ·rw [if_pos c36] at H
                     have c36b0 : decide (((rd_T92 (rd_L5 l0 x11_3) x14_4).f0) < (l3.length : Int)) = true := decide_eq_true c36
                     clear c36
                     obtain ⟨y156, hy156⟩ : ∃ y_ : List Int, y_ = (x12_4.set (((rd_T92 (rd_L5 l0 x11_3) x14_4).f0) : Int).toNat (wrap64 ((rd x12_4 ((rd_T92 (rd_L5 l0 x11_3) x14_4).f0)) + (rd l3 ((rd_T92 (rd_L5 l0 x11_3) x14_4).f0))))) := ⟨_, rfl⟩
                     replace H : (if ((rd_T92 (rd_L5 l0 x11_3) x14_4).f0) < (x13_4.length : Int) then (if (rd y156 ((rd_T92 (rd_L5 l0 x11_3) x14_4).f0)) > (rd x13_4 ((rd_T92 (rd_L5 l0 x11_3) x14_4).f0)) then ((some (x13_4.set (((rd_T92 (rd_L5 l0 x11_3) x14_4).f0) : Int).toNat (rd y156 ((rd_T92 (rd_L5 l0 x11_3) x14_4).f0)) : List Int)).bind fun y160 => (if 0 ≤ ((rd_T92 (rd_L5 l0 x11_3) x14_4).f1) then (if ((rd_T92 (rd_L5 l0 x11_3) x14_4).f1) < (x13_4.length : Int) then (if (rd y156 ((rd_T92 (rd_L5 l0 x11_3) x14_4).f0)) > (rd y160 ((rd_T92 (rd_L5 l0 x11_3) x14_4).f1)) then (spec_Finish.l2 k4 l0 l3 x11_3 y156 (y160.set (((rd_T92 (rd_L5 l0 x11_3) x14_4).f1) : Int).toNat (rd y156 ((rd_T92 (rd_L5 l0 x11_3) x14_4).f0))) (wrap64 (x14_4 + 1))) else (spec_Finish.l2 k4 l0 l3 x11_3 y156 y160 (wrap64 (x14_4 + 1)))) else (none)) else (none))) else (if 0 ≤ ((rd_T92 (rd_L5 l0 x11_3) x14_4).f1) then (if ((rd_T92 (rd_L5 l0 x11_3) x14_4).f1) < (x13_4.length : Int) then (if (rd y156 ((rd_T92 (rd_L5 l0 x11_3) x14_4).f0)) > (rd x13_4 ((rd_T92 (rd_L5 l0 x11_3) x14_4).f1)) then (spec_Finish.l2 k4 l0 l3 x11_3 y156 (x13_4.set (((rd_T92 (rd_L5 l0 x11_3) x14_4).f1) : Int).toNat (rd y156 ((rd_T92 (rd_L5 l0 x11_3) x14_4).f0))) (wrap64 (x14_4 + 1))) else (spec_Finish.l2 k4 l0 l3 x11_3 y156 x13_4 (wrap64 (x14_4 + 1)))) else (none)) else (none))) else (none)) = some r := by first | (rw [hy156]; with_reducible exact H) | (have H2_ := (Option.bind_some _ _).symm.trans H; rw [hy156]; with_reducible exact H2_) | (have H2_ := (Option.bind_some _ _).symm.trans H; with_reducible exact H2_) | with_reducible exact H | (rw [hy156]; exact H) | exact H
                     have Ny156 := Ω5 hy156
                     clear hy156
                     by_cases c38 : ((rd_T92 (rd_L5 l0 x11_3) x14_4).f0) < (x13_4.length : Int)
                     ·rw [if_pos c38] at H
                      have c38b0 : decide (((rd_T92 (rd_L5 l0 x11_3) x14_4).f0) < (x13_4.length : Int)) = true := decide_eq_true c38
                      clear c38
                      by_cases c39 : (rd y156 ((rd_T92 (rd_L5 l0 x11_3) x14_4).f0)) > (rd x13_4 ((rd_T92 (rd_L5 l0 x11_3) x14_4).f0))
                      ·rw [if_pos c39] at H
                       have c39b0 : decide ((rd x13_4 ((rd_T92 (rd_L5 l0 x11_3) x14_4).f0)) < (rd y156 ((rd_T92 (rd_L5 l0 x11_3) x14_4).f0))) = true := decide_eq_true c39
                       clear c39
                       obtain ⟨y160, hy160⟩ : ∃ y_ : List Int, y_ = (x13_4.set (((rd_T92 (rd_L5 l0 x11_3) x14_4).f0) : Int).toNat (rd y156 ((rd_T92 (rd_L5 l0 x11_3) x14_4).f0))) := ⟨_, rfl⟩
                       replace H : (if 0 ≤ ((rd_T92 (rd_L5 l0 x11_3) x14_4).f1) then (if ((rd_T92 (rd_L5 l0 x11_3) x14_4).f1) < (x13_4.length : Int) then (if (rd y156 ((rd_T92 (rd_L5 l0 x11_3) x14_4).f0)) > (rd y160 ((rd_T92 (rd_L5 l0 x11_3) x14_4).f1)) then (spec_Finish.l2 k4 l0 l3 x11_3 y156 (y160.set (((rd_T92 (rd_L5 l0 x11_3) x14_4).f1) : Int).toNat (rd y156 ((rd_T92 (rd_L5 l0 x11_3) x14_4).f0))) (wrap64 (x14_4 + 1))) else (spec_Finish.l2 k4 l0 l3 x11_3 y156 y160 (wrap64 (x14_4 + 1)))) else (none)) else (none)) = some r := by first | (rw [hy160]; with_reducible exact H) | (have H2_ := (Option.bind_some _ _).symm.trans H; rw [hy160]; with_reducible exact H2_) | (have H2_ := (Option.bind_some _ _).symm.trans H; with_reducible exact H2_) | with_reducible exact H | (rw [hy160]; exact H) | exact H
                       have Ny160 := Ω5 hy160
                       clear hy160
                       by_cases c41 : 0 ≤ ((rd_T92 (rd_L5 l0 x11_3) x14_4).f1)
                       ·rw [if_pos c41] at H
                        have c41b0 : decide (0 ≤ ((rd_T92 (rd_L5 l0 x11_3) x14_4).f1)) = true := decide_eq_true c41
                        clear c41
                        by_cases c42 : ((rd_T92 (rd_L5 l0 x11_3) x14_4).f1) < (x13_4.length : Int)
                        ·rw [if_pos c42] at H
                         have c42b0 : decide (((rd_T92 (rd_L5 l0 x11_3) x14_4).f1) < (x13_4.length : Int)) = true := decide_eq_true c42
                         clear c42
                         by_cases c43 : (rd y156 ((rd_T92 (rd_L5 l0 x11_3) x14_4).f0)) > (rd y160 ((rd_T92 (rd_L5 l0 x11_3) x14_4).f1))
                         ·rw [if_pos c43] at H
                          have c43b0 : decide ((rd y160 ((rd_T92 (rd_L5 l0 x11_3) x14_4).f1)) < (rd y156 ((rd_T92 (rd_L5 l0 x11_3) x14_4).f0))) = true := decide_eq_true c43
                          clear c43
                          obtain ⟨y164, hy164⟩ : ∃ y_ : List Int, y_ = (y160.set (((rd_T92 (rd_L5 l0 x11_3) x14_4).f1) : Int).toNat (rd y156 ((rd_T92 (rd_L5 l0 x11_3) x14_4).f0))) := ⟨_, rfl⟩
                          replace H : (spec_Finish.l2 k4 l0 l3 x11_3 y156 y164 (wrap64 (x14_4 + 1))) = some r := by first | (rw [hy164]; with_reducible exact H) | (have H2_ := (Option.bind_some _ _).symm.trans H; rw [hy164]; with_reducible exact H2_) | (have H2_ := (Option.bind_some _ _).symm.trans H; with_reducible exact H2_) | with_reducible exact H | (rw [hy164]; exact H) | exact H
                          have Ny164 := Ω5 hy164
                          clear hy164
                          have H' := Ω5 H
                          clear H
                          have p150 : 0 ≤ (x11_3 : Int) := of_decide_eq_true (by first | (with_reducible assumption) | assumption)
                          have q150 : x11_3 < (l0.length : Int) := of_decide_eq_true (by first | (with_reducible assumption) | assumption)
                          obtain ⟨ad150, A150_0, c150_0, e150, hx150_0, hl150_0, hi150_0⟩ := at_L5 HR0.out x11_3 p150 q150
                          cases e150
                          replace hx150_0 := (HB.out.cell (World.block_lt_of_cell? w _ hx150_0)).trans hx150_0
                          have HR150_0 := Ω5 hi150_0
                          have HC150_0 := Ω5 hl150_0
                          clear hi150_0 hl150_0
                          replace p150 := eq_true p150
                          replace q150 := eq_true q150
                          have p151 : 0 ≤ (x11_3 : Int) := of_decide_eq_true (by first | (with_reducible assumption) | assumption)
                          have q151 : x11_3 < (l0.length : Int) := of_decide_eq_true (by first | (with_reducible assumption) | assumption)
                          obtain ⟨ad151, A151_0, c151_0, e151, hx151_0, hl151_0, hi151_0⟩ := at_L5 HR0.out x11_3 p151 q151
                          obtain rfl : ad150 = ad151 := (by injection e151)
                          replace hx151_0 := (HB.out.cell (World.block_lt_of_cell? w _ hx151_0)).trans hx151_0
                          have HR151_0 := Ω5 hi151_0
                          have HC151_0 := Ω5 hl151_0
                          clear hi151_0 hl151_0
                          replace p151 := eq_true p151
                          replace q151 := eq_true q151
                          have ea_ := Option.some.inj (hx150_0.symm.trans hx151_0)
                          injection ea_ with ea_ en_ ec_
                          subst ea_
                          subst ec_
                          clear en_
                          have p152 : 0 ≤ (x14_4 : Int) := of_decide_eq_true (by first | (with_reducible assumption) | assumption)
                          have q152 : x14_4 < ((rd_L5 l0 x11_3).length : Int) := of_decide_eq_true (by first | (with_reducible assumption) | assumption)
                          obtain ⟨ad152, e152, hx152_0, hx152_1, hx152_2, hx152_3⟩ := at_T92 HR151_0.out x14_4 p152 q152
                          cases e152
                          replace hx152_0 := (HB.out.cell (World.block_lt_of_cell? w _ hx152_0)).trans hx152_0
                          replace hx152_1 := (HB.out.cell (World.block_lt_of_cell? w _ hx152_1)).trans hx152_1
                          replace hx152_2 := (HB.out.cell (World.block_lt_of_cell? w _ hx152_2)).trans hx152_2
                          replace hx152_3 := (HB.out.cell (World.block_lt_of_cell? w _ hx152_3)).trans hx152_3
                          replace p152 := eq_true p152
                          replace q152 := eq_true q152
                          try go_wp2_with (first | ((with_reducible refine gate_dst (N := 15) rfl ?_); (try (refine gate_guard (by rfl) ?_; dsimp only)); refine box_event ?hg (N := 15) ?hd (cs := #[.int .i64 0, .int .i64 0, .int .i64 0, .bool false]) (t := 92) ?hr ?_; (case hd => rfl); (case hg => rfl); (case hr => first | (go_simp; done) | (go_simp; rfl)); intro gb153 hg w45 hbox hb; have BK153 := Ω5 (hbox); have GW153 := Ω5 ((by rw [hg]; exact (below_size (Hu HB.out)) : w.heap.size ≤ gb153)); have GE153 := Ω5 ((by rw [hg]; exact (below_size (Hu HB.out)) : w.heap.size ≤ gb153)); replace HO_12 := Ω5 (Rb HO_12.out hb); replace HO_13 := Ω5 (Rb HO_13.out hb); replace HB := Ω5 (below_step (Hu HB.out) hb); clear hb hbox hg; have hcz46_0 : w45.cell? ⟨gb153, 0, none⟩ = some (.int .i64 0) := (ΩJ BK153.out 0).trans rfl; have hcz46_1 : w45.cell? ⟨gb153, 1, none⟩ = some (.int .i64 0) := (ΩJ BK153.out 1).trans rfl; have hcz46_2 : w45.cell? ⟨gb153, 2, none⟩ = some (.int .i64 0) := (ΩJ BK153.out 2).trans rfl; have hcz46_3 : w45.cell? ⟨gb153, 3, none⟩ = some (.bool false) := (ΩJ BK153.out 3).trans rfl; have hfz46_0 := ΩF BK153.out 0; have hfz46_1 := ΩF BK153.out 1; have hfz46_2 := ΩF BK153.out 2; have hfz46_3 := ΩF BK153.out 3))
                          have n0_ : Aside0 (Kd.R (Kd.int .i64) 3 ((((w45.setCell ⟨gb153, 0, none⟩ (.int .i64 ((rd_T92 (rd_L5 l0 x11_3) x14_4).f0))).setCell ⟨gb153, 1, none⟩ (.int .i64 ((rd_T92 (rd_L5 l0 x11_3) x14_4).f1))).setCell ⟨gb153, 2, none⟩ (.int .i64 ((rd_T92 (rd_L5 l0 x11_3) x14_4).f2))).setCell ⟨gb153, 3, none⟩ (.bool ((rd_T92 (rd_L5 l0 x11_3) x14_4).f3))) w.heap.size (fun k_ => some k_ ≠ (v148 : Value).ownBlock) v145 x12_4) := ⟨by (with_reducible repeat (first | apply Ω1 | apply Ω2 | apply Ω3)); exact ΩE (Ω4 (p := ⟨gb153, 3, none⟩) (Ω4 (p := ⟨gb153, 2, none⟩) (Ω4 (p := ⟨gb153, 1, none⟩) (Ω4 (p := ⟨gb153, 0, none⟩) (Kd.R_types HO_12.out BK153.out (by decide)) (fun _ hk => hk.2) (.int .i64 ((rd_T92 (rd_L5 l0 x11_3) x14_4).f0))) (fun _ hk => hk.2) (.int .i64 ((rd_T92 (rd_L5 l0 x11_3) x14_4).f1))) (fun _ hk => hk.2) (.int .i64 ((rd_T92 (rd_L5 l0 x11_3) x14_4).f2))) (fun _ hk => hk.2) (.bool ((rd_T92 (rd_L5 l0 x11_3) x14_4).f3))) (fun _ hk => hk.1)⟩
                          have n1_ : Aside0 (Kd.R (Kd.int .i64) 3 ((((w45.setCell ⟨gb153, 0, none⟩ (.int .i64 ((rd_T92 (rd_L5 l0 x11_3) x14_4).f0))).setCell ⟨gb153, 1, none⟩ (.int .i64 ((rd_T92 (rd_L5 l0 x11_3) x14_4).f1))).setCell ⟨gb153, 2, none⟩ (.int .i64 ((rd_T92 (rd_L5 l0 x11_3) x14_4).f2))).setCell ⟨gb153, 3, none⟩ (.bool ((rd_T92 (rd_L5 l0 x11_3) x14_4).f3))) w.heap.size (fun k_ => some k_ ≠ (v145 : Value).ownBlock) v148 x13_4) := ⟨by (with_reducible repeat (first | apply Ω1 | apply Ω2 | apply Ω3)); exact ΩE (Ω4 (p := ⟨gb153, 3, none⟩) (Ω4 (p := ⟨gb153, 2, none⟩) (Ω4 (p := ⟨gb153, 1, none⟩) (Ω4 (p := ⟨gb153, 0, none⟩) (Kd.R_types HO_13.out BK153.out (by decide)) (fun _ hk => hk.2) (.int .i64 ((rd_T92 (rd_L5 l0 x11_3) x14_4).f0))) (fun _ hk => hk.2) (.int .i64 ((rd_T92 (rd_L5 l0 x11_3) x14_4).f1))) (fun _ hk => hk.2) (.int .i64 ((rd_T92 (rd_L5 l0 x11_3) x14_4).f2))) (fun _ hk => hk.2) (.bool ((rd_T92 (rd_L5 l0 x11_3) x14_4).f3))) (fun _ hk => hk.1)⟩
                          have n2_ : Aside0 (((((w45.setCell ⟨gb153, 0, none⟩ (.int .i64 ((rd_T92 (rd_L5 l0 x11_3) x14_4).f0))).setCell ⟨gb153, 1, none⟩ (.int .i64 ((rd_T92 (rd_L5 l0 x11_3) x14_4).f1))).setCell ⟨gb153, 2, none⟩ (.int .i64 ((rd_T92 (rd_L5 l0 x11_3) x14_4).f2))).setCell ⟨gb153, 3, none⟩ (.bool ((rd_T92 (rd_L5 l0 x11_3) x14_4).f3))).heap[gb153]? = some (.cells #[.int .i64 ((rd_T92 (rd_L5 l0 x11_3) x14_4).f0), .int .i64 ((rd_T92 (rd_L5 l0 x11_3) x14_4).f1), .int .i64 ((rd_T92 (rd_L5 l0 x11_3) x14_4).f2), .bool ((rd_T92 (rd_L5 l0 x11_3) x14_4).f3)] 92 (0, 0))) := ⟨by (with_reducible repeat (first | refine ΩA ?_ _ | refine ΩC ?_ | refine ΩB ?_ _)); refine blk_put (cs := #[.int .i64 ((rd_T92 (rd_L5 l0 x11_3) x14_4).f0), .int .i64 ((rd_T92 (rd_L5 l0 x11_3) x14_4).f1), .int .i64 ((rd_T92 (rd_L5 l0 x11_3) x14_4).f2), .bool false]) ?_ 3 _ rfl; (with_reducible repeat (first | refine ΩA ?_ _ | refine ΩC ?_ | refine ΩB ?_ _)); refine blk_put (cs := #[.int .i64 ((rd_T92 (rd_L5 l0 x11_3) x14_4).f0), .int .i64 ((rd_T92 (rd_L5 l0 x11_3) x14_4).f1), .int .i64 0, .bool false]) ?_ 2 _ rfl; (with_reducible repeat (first | refine ΩA ?_ _ | refine ΩC ?_ | refine ΩB ?_ _)); refine blk_put (cs := #[.int .i64 ((rd_T92 (rd_L5 l0 x11_3) x14_4).f0), .int .i64 0, .int .i64 0, .bool false]) ?_ 1 _ rfl; (with_reducible repeat (first | refine ΩA ?_ _ | refine ΩC ?_ | refine ΩB ?_ _)); refine blk_put (cs := #[.int .i64 0, .int .i64 0, .int .i64 0, .bool false]) ?_ 0 _ rfl; (with_reducible repeat (first | refine ΩA ?_ _ | refine ΩC ?_ | refine ΩB ?_ _)); exact BK153.out⟩
                          have n3_ : Aside0 (Below w.heap.size w ((((w45.setCell ⟨gb153, 0, none⟩ (.int .i64 ((rd_T92 (rd_L5 l0 x11_3) x14_4).f0))).setCell ⟨gb153, 1, none⟩ (.int .i64 ((rd_T92 (rd_L5 l0 x11_3) x14_4).f1))).setCell ⟨gb153, 2, none⟩ (.int .i64 ((rd_T92 (rd_L5 l0 x11_3) x14_4).f2))).setCell ⟨gb153, 3, none⟩ (.bool ((rd_T92 (rd_L5 l0 x11_3) x14_4).f3)))) := ⟨HBu HB.out⟩
                          (try clear HO_12)
                          (try clear HO_13)
                          (try clear BK153)
                          (try clear HB)
                          generalize ((((w45.setCell ⟨gb153, 0, none⟩ (.int .i64 ((rd_T92 (rd_L5 l0 x11_3) x14_4).f0))).setCell ⟨gb153, 1, none⟩ (.int .i64 ((rd_T92 (rd_L5 l0 x11_3) x14_4).f1))).setCell ⟨gb153, 2, none⟩ (.int .i64 ((rd_T92 (rd_L5 l0 x11_3) x14_4).f2))).setCell ⟨gb153, 3, none⟩ (.bool ((rd_T92 (rd_L5 l0 x11_3) x14_4).f3))) = w47 at n0_ n1_ n2_ n3_ ⊢
                          have HO_12 := n0_
                          have HO_13 := n1_
                          have BK153 := n2_
                          have HB := n3_
                          clear n0_ n1_ n2_ n3_
                          replace HO_12 := Ω5 (Ω3 HO_12.out)
                          replace HO_13 := Ω5 (Ω3 HO_13.out)
                          replace BK153 := Ω5 (ΩC BK153.out)
                          replace HB := Ω5 (Ω8 HB.out)
                          obtain ⟨Ao49, co49, eo49⟩ := Kd.R_slice HO_12.out
                          (first | subst eo49 | (injection eo49 with f1_ f2_ f3_; have f4_ := f1_.symm; have f5_ := f3_.symm; clear f1_ f2_ f3_; subst f4_; subst f5_))
                          have p154 : 0 ≤ (((rd_T92 (rd_L5 l0 x11_3) x14_4).f0) : Int) := of_decide_eq_true (by first | (with_reducible assumption) | assumption)
                          have q154 : ((rd_T92 (rd_L5 l0 x11_3) x14_4).f0) < (x12_4.length : Int) := of_decide_eq_true (by first | (with_reducible assumption) | assumption)
                          obtain ⟨ad154, e154, hx154_0⟩ := Kd.at_int (Kd.R_reads' HO_12.out).2.2 ((rd_T92 (rd_L5 l0 x11_3) x14_4).f0) p154 q154
                          cases e154
                          replace p154 := eq_true p154
                          replace q154 := eq_true q154
                          have p155 : 0 ≤ (((rd_T92 (rd_L5 l0 x11_3) x14_4).f0) : Int) := of_decide_eq_true (by first | (with_reducible assumption) | assumption)
                          have q155 : ((rd_T92 (rd_L5 l0 x11_3) x14_4).f0) < (l3.length : Int) := of_decide_eq_true (by first | (with_reducible assumption) | assumption)
                          obtain ⟨ad155, e155, hx155_0⟩ := Kd.at_int HR3.out ((rd_T92 (rd_L5 l0 x11_3) x14_4).f0) p155 q155
                          have hw155_0 := hx155_0
                          cases e155
                          replace hx155_0 := (HB.out.cell (World.block_lt_of_cell? w _ hx155_0)).trans hx155_0
                          replace p155 := eq_true p155
                          replace q155 := eq_true q155
                          have p37 : 0 ≤ (((rd_T92 (rd_L5 l0 x11_3) x14_4).f0) : Int) := of_decide_eq_true (by first | (with_reducible assumption) | assumption)
                          have q37 : (((rd_T92 (rd_L5 l0 x11_3) x14_4).f0) : Int) < ((x12_4.length : Int) : Int) := of_decide_eq_true (by first | (with_reducible assumption) | assumption)
                          obtain ⟨go37, co37, eo37, gb37, gl37, cl37, HG37⟩ := Kd.R_form HO_12.out (by omega)
                          (first | cases eo37 | (injection eo37 with ea_ en_ ec_; (first | subst ea_ | (injection ea_ with ea_; subst ea_)); subst ec_; clear en_))
                          have GB37 := Ω5 gb37
                          have GG37 := Ω5 HG37
                          clear gb37 gl37 HG37
                          (first | simp only [add_plain] at hx154_0 | skip)
                          obtain ⟨hx37_0, hf37_0⟩ := Kd.R_celln 0 HO_12.out (((rd_T92 (rd_L5 l0 x11_3) x14_4).f0) : Int) p37 q37
                          replace p37 := eq_true p37
                          replace q37 := eq_true q37
                          have HP50 := Kd.R_putn HO_12.out (((rd_T92 (rd_L5 l0 x11_3) x14_4).f0) : Int) (wrap64 ((rd x12_4 ((rd_T92 (rd_L5 l0 x11_3) x14_4).f0)) + (rd l3 ((rd_T92 (rd_L5 l0 x11_3) x14_4).f0))))
                          rw [← Ny156.out] at HP50
                          have HQ50 := Ω5 HP50
                          clear HP50
                          refine start_ (n := 16) (S := fun w' => w'.cell? ⟨gb153, 0, none⟩ = some (.int .i64 ((rd_T92 (rd_L5 l0 x11_3) x14_4).f0)) ∧ w'.cell? ⟨gb153, 1, none⟩ = some (.int .i64 ((rd_T92 (rd_L5 l0 x11_3) x14_4).f1)) ∧ w'.cell? ⟨gb153, 2, none⟩ = some (.int .i64 ((rd_T92 (rd_L5 l0 x11_3) x14_4).f2)) ∧ w'.cell? ⟨gb153, 3, none⟩ = some (.bool ((rd_T92 (rd_L5 l0 x11_3) x14_4).f3)) ∧ w'.cell? ⟨go37, (((rd_T92 (rd_L5 l0 x11_3) x14_4).f0)).toNat, none⟩ = some (.int .i64 (rd x12_4 ((rd_T92 (rd_L5 l0 x11_3) x14_4).f0))) ∧ w'.cell? (ad155.add (((rd_T92 (rd_L5 l0 x11_3) x14_4).f0)).toNat) = some (.int .i64 (rd l3 ((rd_T92 (rd_L5 l0 x11_3) x14_4).f0)))) (ds := [15]) #[false, false, false, false, false, false, false, false, false, false, false, false, false, false, false, false] (by kernel_rfl) rfl rfl ⟨(ΩJ BK153.out 0).trans rfl, (ΩJ BK153.out 1).trans rfl, (ΩJ BK153.out 2).trans rfl, (ΩJ BK153.out 3).trans rfl, hx154_0, ((HB.out.cell (World.block_lt_of_cell? w _ hw155_0)).trans hw155_0)⟩ (fun hHeld => ?_); refine with_tabW spec_Finish.tab18 spec_Finish.bits18 (fun HT_ HW_ => ?_)
                          generalize w47.drew = w48 at HO_12 HO_13 BK153 HB GG37 HQ50 hf37_0 hx154_0 hx155_0 hx37_0 hHeld ⊢
                          refine pure_ (i := 0) (N := some 68) (v := ?_) (a' := ?_) #[true, false, false, false, false, false, false, false, false, false, false, false, false, false, false, false] rfl rfl (any_of HT_.out (by kernel_rfl)) (fun _ _ _ h => h) (Or.inl ⟨by rfl, ?_⟩) ?_ ?_
                          rotate_left
                          ·intro w'
                           go_simp
                           with_reducible rfl
                          rotate_left
                          ·simp only [Act.put, List.setIfInBounds_toArray, List.set_cons_zero, List.set_cons_succ, i64_w, i32_w]
                           rfl
                          refine pure_ (i := 1) (N := some 69) (v := ?_) (a' := ?_) #[true, true, false, false, false, false, false, false, false, false, false, false, false, false, false, false] rfl rfl (any_of HT_.out (by kernel_rfl)) (fun _ _ _ h => h) (Or.inl ⟨by rfl, ?_⟩) ?_ ?_
                          rotate_left
                          ·intro w'
                           go_simp
                           with_reducible rfl
                          rotate_left
                          ·simp only [Act.put, List.setIfInBounds_toArray, List.set_cons_zero, List.set_cons_succ, i64_w, i32_w]
                           rfl
                          refine pure_ (i := 3) (N := some 71) (v := ?_) (a' := ?_) #[true, true, false, true, false, false, false, false, false, false, false, false, false, false, false, false] rfl rfl (any_of HT_.out (by kernel_rfl)) (fun _ _ _ h => h) (Or.inl ⟨by rfl, ?_⟩) ?_ ?_
                          rotate_left
                          ·intro w'
                           go_simp
                           with_reducible rfl
                          rotate_left
                          ·simp only [Act.put, List.setIfInBounds_toArray, List.set_cons_zero, List.set_cons_succ, i64_w, i32_w]
                           rfl
                          refine pure_ (i := 4) (N := some 72) (v := ?_) (a' := ?_) #[true, true, false, true, true, false, false, false, false, false, false, false, false, false, false, false] rfl rfl (any_of HT_.out (by kernel_rfl)) (fun _ _ _ h => h) (Or.inl ⟨by rfl, ?_⟩) ?_ ?_
                          rotate_left
                          ·intro w'
                           go_simp
                           with_reducible rfl
                          rotate_left
                          ·simp only [Act.put, List.setIfInBounds_toArray, List.set_cons_zero, List.set_cons_succ, i64_w, i32_w]
                           rfl
                          refine pure_ (i := 8) (N := some 76) (v := ?_) (a' := ?_) #[true, true, false, true, true, false, false, false, true, false, false, false, false, false, false, false] rfl rfl (any_of HT_.out (by kernel_rfl)) (fun _ _ _ h => h) (Or.inl ⟨by rfl, ?_⟩) ?_ ?_
                          rotate_left
                          ·intro w'
                           go_simp
                           with_reducible rfl
                          rotate_left
                          ·simp only [Act.put, List.setIfInBounds_toArray, List.set_cons_zero, List.set_cons_succ, i64_w, i32_w]
                           rfl
                          refine pure_ (i := 9) (N := some 77) (v := ?_) (a' := ?_) #[true, true, false, true, true, false, false, false, true, true, false, false, false, false, false, false] rfl rfl (any_of HT_.out (by kernel_rfl)) (fun _ _ _ h => h) (Or.inl ⟨by rfl, ?_⟩) ?_ ?_
                          rotate_left
                          ·intro w'
                           go_simp
                           with_reducible rfl
                          rotate_left
                          ·simp only [Act.put, List.setIfInBounds_toArray, List.set_cons_zero, List.set_cons_succ, i64_w, i32_w]
                           rfl
                          refine take_ (i := 2) (N := some 70) (v := ?_) (a' := ?_) #[true, true, true, true, true, false, false, false, true, true, false, false, false, false, false, false] rfl rfl (take_ofW HT_.out HW_.out (by kernel_rfl)) (fun _ _ _ h => h) (Or.inl ⟨by rfl, ?_⟩) hHeld ?_ ?_
                          rotate_left
                          ·rintro w' ⟨s0, s1, s2, s3, s4, s5⟩
                           go_simp
                           with_reducible rfl
                          rotate_left
                          ·simp only [Act.put, List.setIfInBounds_toArray, List.set_cons_zero, List.set_cons_succ, i64_w, i32_w]
                           rfl
                          refine take_ (i := 5) (N := some 73) (v := ?_) (a' := ?_) #[true, true, true, true, true, true, false, false, true, true, false, false, false, false, false, false] rfl rfl (take_ofW HT_.out HW_.out (by kernel_rfl)) (fun _ _ _ h => h) (Or.inl ⟨by rfl, ?_⟩) hHeld ?_ ?_
                          rotate_left
                          ·rintro w' ⟨s0, s1, s2, s3, s4, s5⟩
                           go_simp
                           with_reducible rfl
                          rotate_left
                          ·simp only [Act.put, List.setIfInBounds_toArray, List.set_cons_zero, List.set_cons_succ, i64_w, i32_w]
                           rfl
                          refine pure_ (i := 6) (N := some 74) (v := ?_) (a' := ?_) #[true, true, true, true, true, true, true, false, true, true, false, false, false, false, false, false] rfl rfl (any_of HT_.out (by kernel_rfl)) (fun _ _ _ h => h) (Or.inl ⟨by rfl, ?_⟩) ?_ ?_
                          rotate_left
                          ·intro w'
                           go_simp
                           with_reducible rfl
                          rotate_left
                          ·simp only [Act.put, List.setIfInBounds_toArray, List.set_cons_zero, List.set_cons_succ, i64_w, i32_w]
                           rfl
                          refine take_ (i := 7) (N := some 75) (v := ?_) (a' := ?_) #[true, true, true, true, true, true, true, true, true, true, false, false, false, false, false, false] rfl rfl (take_ofW HT_.out HW_.out (by kernel_rfl)) (fun _ _ _ h => h) (Or.inl ⟨by rfl, ?_⟩) hHeld ?_ ?_
                          rotate_left
                          ·rintro w' ⟨s0, s1, s2, s3, s4, s5⟩
                           go_simp
                           with_reducible rfl
                          rotate_left
                          ·simp only [Act.put, List.setIfInBounds_toArray, List.set_cons_zero, List.set_cons_succ, i64_w, i32_w]
                           rfl
                          refine take_ (i := 10) (N := some 78) (v := ?_) (a' := ?_) #[true, true, true, true, true, true, true, true, true, true, true, false, false, false, false, false] rfl rfl (take_ofW HT_.out HW_.out (by kernel_rfl)) (fun _ _ _ h => h) (Or.inl ⟨by rfl, ?_⟩) hHeld ?_ ?_
                          rotate_left
                          ·rintro w' ⟨s0, s1, s2, s3, s4, s5⟩
                           go_simp
                           with_reducible rfl
                          rotate_left
                          ·simp only [Act.put, List.setIfInBounds_toArray, List.set_cons_zero, List.set_cons_succ, i64_w, i32_w]
                           rfl
                          refine pure_ (i := 11) (N := some 79) (v := ?_) (a' := ?_) #[true, true, true, true, true, true, true, true, true, true, true, true, false, false, false, false] rfl rfl (any_of HT_.out (by kernel_rfl)) (fun _ _ _ h => h) (Or.inl ⟨by rfl, ?_⟩) ?_ ?_
                          rotate_left
                          ·intro w'
                           go_simp
                           with_reducible rfl
                          rotate_left
                          ·simp only [Act.put, List.setIfInBounds_toArray, List.set_cons_zero, List.set_cons_succ, i64_w, i32_w]
                           rfl
                          refine take_ (i := 12) (N := some 80) (v := ?_) (a' := ?_) #[true, true, true, true, true, true, true, true, true, true, true, true, true, false, false, false] rfl rfl (take_ofW HT_.out HW_.out (by kernel_rfl)) (fun _ _ _ h => h) (Or.inl ⟨by rfl, ?_⟩) hHeld ?_ ?_
                          rotate_left
                          ·rintro w' ⟨s0, s1, s2, s3, s4, s5⟩
                           go_simp
                           with_reducible rfl
                          rotate_left
                          ·simp only [Act.put, List.setIfInBounds_toArray, List.set_cons_zero, List.set_cons_succ, i64_w, i32_w]
                           rfl
                          refine pure_ (i := 13) (N := some 81) (v := ?_) (a' := ?_) #[true, true, true, true, true, true, true, true, true, true, true, true, true, true, false, false] rfl rfl (any_of HT_.out (by kernel_rfl)) (fun _ _ _ h => h) (Or.inl ⟨by rfl, ?_⟩) ?_ ?_
                          rotate_left
                          ·intro w'
                           go_simp
                           with_reducible rfl
                          rotate_left
                          ·simp only [Act.put, List.setIfInBounds_toArray, List.set_cons_zero, List.set_cons_succ, i64_w, i32_w]
                           rfl
                          refine pure_ (i := 14) (N := some 82) (v := ?_) (a' := ?_) #[true, true, true, true, true, true, true, true, true, true, true, true, true, true, true, false] rfl rfl (any_of HT_.out (by kernel_rfl)) (fun _ _ _ h => h) (Or.inl ⟨by rfl, ?_⟩) ?_ ?_
                          rotate_left
                          ·intro w'
                           go_simp
                           with_reducible rfl
                          rotate_left
                          ·simp only [Act.put, List.setIfInBounds_toArray, List.set_cons_zero, List.set_cons_succ, i64_w, i32_w]
                           rfl
                          refine last_ (i := 15) (N := none) #[true, true, true, true, true, true, true, true, true, true, true, true, true, true, true, true] rfl rfl (one_of HT_.out (by kernel_rfl)) (by decide) (fun K hK => ?_)
                          refine skip_ (w1 := ?_) (by rfl) rfl ?_ ?_
                          rotate_left
                          ·go_simp
                           rfl
                          refine hK.out _ _ ?_
                          clear hK K
                          refine done_ (done_of HT_.out (by kernel_rfl)) ?_
                          try go_wp2
                          have n0_ : Aside0 (Kd.R (Kd.int .i64) 3 (w48.setCell ⟨go37, (((rd_T92 (rd_L5 l0 x11_3) x14_4).f0) : Int).toNat, none⟩ (.int .i64 (wrap64 ((rd x12_4 ((rd_T92 (rd_L5 l0 x11_3) x14_4).f0)) + (rd l3 ((rd_T92 (rd_L5 l0 x11_3) x14_4).f0)))))) w.heap.size (fun k_ => some k_ ≠ (v148 : Value).ownBlock) (.slice (some ⟨go37, 0, none⟩) x12_4.length co49) y156) := ⟨by (with_reducible repeat (first | apply Ω1 | apply Ω2 | apply Ω3)); exact HQ50.out⟩
                          have n1_ : Aside0 (Kd.R (Kd.int .i64) 3 (w48.setCell ⟨go37, (((rd_T92 (rd_L5 l0 x11_3) x14_4).f0) : Int).toNat, none⟩ (.int .i64 (wrap64 ((rd x12_4 ((rd_T92 (rd_L5 l0 x11_3) x14_4).f0)) + (rd l3 ((rd_T92 (rd_L5 l0 x11_3) x14_4).f0)))))) w.heap.size (fun k_ => some k_ ≠ (.slice (some ⟨go37, 0, none⟩) x12_4.length co49 : Value).ownBlock) v148 x13_4) := ⟨by (with_reducible repeat (first | apply Ω1 | apply Ω2 | apply Ω3)); exact ΩE (Ω4 (p := ⟨go37, (((rd_T92 (rd_L5 l0 x11_3) x14_4).f0) : Int).toNat, none⟩) (ΩE HO_13.out (fun k_ hk => (⟨hk, fun e_ => hk (by rw [e_]; rfl)⟩ : _ ∧ k_ ≠ go37))) (fun _ hk => hk.2) (.int .i64 (wrap64 ((rd x12_4 ((rd_T92 (rd_L5 l0 x11_3) x14_4).f0)) + (rd l3 ((rd_T92 (rd_L5 l0 x11_3) x14_4).f0)))))) (fun _ hk => hk.1)⟩
                          have n2_ : Aside0 ((w48.setCell ⟨go37, (((rd_T92 (rd_L5 l0 x11_3) x14_4).f0) : Int).toNat, none⟩ (.int .i64 (wrap64 ((rd x12_4 ((rd_T92 (rd_L5 l0 x11_3) x14_4).f0)) + (rd l3 ((rd_T92 (rd_L5 l0 x11_3) x14_4).f0)))))).heap[gb153]? = some (.cells #[.int .i64 ((rd_T92 (rd_L5 l0 x11_3) x14_4).f0), .int .i64 ((rd_T92 (rd_L5 l0 x11_3) x14_4).f1), .int .i64 ((rd_T92 (rd_L5 l0 x11_3) x14_4).f2), .bool ((rd_T92 (rd_L5 l0 x11_3) x14_4).f3)] 92 (0, 0))) := ⟨by (with_reducible repeat (first | refine ΩA ?_ _ | refine ΩC ?_ | refine ΩB ?_ _)); refine blk_far ?_ (by have h_ := Kd.R_ne HO_12.out BK153.out (by decide); intro e_; exact h_ (by rw [e_]; rfl)) _; (with_reducible repeat (first | refine ΩA ?_ _ | refine ΩC ?_ | refine ΩB ?_ _)); exact BK153.out⟩
                          have n3_ : Aside0 (Below w.heap.size w (w48.setCell ⟨go37, (((rd_T92 (rd_L5 l0 x11_3) x14_4).f0) : Int).toNat, none⟩ (.int .i64 (wrap64 ((rd x12_4 ((rd_T92 (rd_L5 l0 x11_3) x14_4).f0)) + (rd l3 ((rd_T92 (rd_L5 l0 x11_3) x14_4).f0))))))) := ⟨HBu HB.out⟩
                          (try clear HO_12)
                          (try clear HO_13)
                          (try clear BK153)
                          (try clear HB)
                          generalize (w48.setCell ⟨go37, (((rd_T92 (rd_L5 l0 x11_3) x14_4).f0) : Int).toNat, none⟩ (.int .i64 (wrap64 ((rd x12_4 ((rd_T92 (rd_L5 l0 x11_3) x14_4).f0)) + (rd l3 ((rd_T92 (rd_L5 l0 x11_3) x14_4).f0)))))) = w51 at n0_ n1_ n2_ n3_ ⊢
                          have HO_12 := n0_
                          have HO_13 := n1_
                          have BK153 := n2_
                          have HB := n3_
                          clear n0_ n1_ n2_ n3_
                          replace HO_12 := Ω5 (Ω3 HO_12.out)
                          replace HO_13 := Ω5 (Ω3 HO_13.out)
                          replace BK153 := Ω5 (ΩC BK153.out)
                          replace HB := Ω5 (Ω8 HB.out)
                          have p157 : 0 ≤ (((rd_T92 (rd_L5 l0 x11_3) x14_4).f0) : Int) := of_decide_eq_true (by first | (with_reducible assumption) | assumption)
                          have q157 : ((rd_T92 (rd_L5 l0 x11_3) x14_4).f0) < (y156.length : Int) := (by have h_ : (((rd_T92 (rd_L5 l0 x11_3) x14_4).f0) : Int) < ((x12_4.length : Int) : Int) := of_decide_eq_true (by first | (with_reducible assumption) | assumption); first | (have e_ := (Kd.R_reads' HO_12.out).1; omega) | simpa only [Ny156.out, List.length_set] using h_)
                          have ql157 : ((((rd_T92 (rd_L5 l0 x11_3) x14_4).f0) : Int) < ((x12_4.length : Int) : Int)) = True := eq_true (of_decide_eq_true (by first | (with_reducible assumption) | assumption))
                          obtain ⟨ad157, e157, hx157_0⟩ := Kd.at_int (Kd.R_reads' HO_12.out).2.2 ((rd_T92 (rd_L5 l0 x11_3) x14_4).f0) p157 q157
                          obtain rfl : (⟨go37, 0, none⟩ : Addr) = ad157 := (by injection e157)
                          (first | simp only [add_plain] at hx157_0 | simp only [add_at] at hx157_0 | simp only [Addr.add, Nat.zero_add] at hx157_0 | skip)
                          replace p157 := eq_true p157
                          replace q157 := eq_true q157
                          obtain ⟨Ao53, co53, eo53⟩ := Kd.R_slice HO_13.out
                          (first | subst eo53 | (injection eo53 with f1_ f2_ f3_; have f4_ := f1_.symm; have f5_ := f3_.symm; clear f1_ f2_ f3_; subst f4_; subst f5_))
                          have p158 : 0 ≤ (((rd_T92 (rd_L5 l0 x11_3) x14_4).f0) : Int) := of_decide_eq_true (by first | (with_reducible assumption) | assumption)
                          have q158 : ((rd_T92 (rd_L5 l0 x11_3) x14_4).f0) < (x13_4.length : Int) := of_decide_eq_true (by first | (with_reducible assumption) | assumption)
                          obtain ⟨ad158, e158, hx158_0⟩ := Kd.at_int (Kd.R_reads' HO_13.out).2.2 ((rd_T92 (rd_L5 l0 x11_3) x14_4).f0) p158 q158
                          cases e158
                          replace p158 := eq_true p158
                          replace q158 := eq_true q158
                          refine start_ (n := 11) (S := fun w' => w'.cell? ⟨gb153, 0, none⟩ = some (.int .i64 ((rd_T92 (rd_L5 l0 x11_3) x14_4).f0)) ∧ w'.cell? ⟨gb153, 1, none⟩ = some (.int .i64 ((rd_T92 (rd_L5 l0 x11_3) x14_4).f1)) ∧ w'.cell? ⟨gb153, 2, none⟩ = some (.int .i64 ((rd_T92 (rd_L5 l0 x11_3) x14_4).f2)) ∧ w'.cell? ⟨gb153, 3, none⟩ = some (.bool ((rd_T92 (rd_L5 l0 x11_3) x14_4).f3)) ∧ w'.cell? ⟨go37, (((rd_T92 (rd_L5 l0 x11_3) x14_4).f0)).toNat, none⟩ = some (.int .i64 (rd y156 ((rd_T92 (rd_L5 l0 x11_3) x14_4).f0))) ∧ w'.cell? (ad158.add (((rd_T92 (rd_L5 l0 x11_3) x14_4).f0)).toNat) = some (.int .i64 (rd x13_4 ((rd_T92 (rd_L5 l0 x11_3) x14_4).f0)))) (ds := []) #[false, false, false, false, false, false, false, false, false, false, false] (by kernel_rfl) rfl rfl ⟨(ΩJ BK153.out 0).trans rfl, (ΩJ BK153.out 1).trans rfl, (ΩJ BK153.out 2).trans rfl, (ΩJ BK153.out 3).trans rfl, hx157_0, hx158_0⟩ (fun hHeld => ?_); refine with_tabW spec_Finish.tab19 spec_Finish.bits19 (fun HT_ HW_ => ?_)
                          generalize w51.drew = w52 at HO_12 HO_13 BK153 HB HQ50 hx157_0 hx158_0 hHeld ⊢
                          refine pure_ (i := 0) (N := some 83) (v := ?_) (a' := ?_) #[true, false, false, false, false, false, false, false, false, false, false] rfl rfl (any_of HT_.out (by kernel_rfl)) (fun _ _ _ h => h) (Or.inl ⟨by rfl, ?_⟩) ?_ ?_
                          rotate_left
                          ·intro w'
                           go_simp
                           with_reducible rfl
                          rotate_left
                          ·simp only [Act.put, List.setIfInBounds_toArray, List.set_cons_zero, List.set_cons_succ, i64_w, i32_w]
                           rfl
                          refine pure_ (i := 1) (N := some 84) (v := ?_) (a' := ?_) #[true, true, false, false, false, false, false, false, false, false, false] rfl rfl (any_of HT_.out (by kernel_rfl)) (fun _ _ _ h => h) (Or.inl ⟨by rfl, ?_⟩) ?_ ?_
                          rotate_left
                          ·intro w'
                           go_simp
                           with_reducible rfl
                          rotate_left
                          ·simp only [Act.put, List.setIfInBounds_toArray, List.set_cons_zero, List.set_cons_succ, i64_w, i32_w]
                           rfl
                          refine pure_ (i := 5) (N := some 88) (v := ?_) (a' := ?_) #[true, true, false, false, false, true, false, false, false, false, false] rfl rfl (any_of HT_.out (by kernel_rfl)) (fun _ _ _ h => h) (Or.inl ⟨by rfl, ?_⟩) ?_ ?_
                          rotate_left
                          ·intro w'
                           go_simp
                           with_reducible rfl
                          rotate_left
                          ·simp only [Act.put, List.setIfInBounds_toArray, List.set_cons_zero, List.set_cons_succ, i64_w, i32_w]
                           rfl
                          refine pure_ (i := 6) (N := some 89) (v := ?_) (a' := ?_) #[true, true, false, false, false, true, true, false, false, false, false] rfl rfl (any_of HT_.out (by kernel_rfl)) (fun _ _ _ h => h) (Or.inl ⟨by rfl, ?_⟩) ?_ ?_
                          rotate_left
                          ·intro w'
                           go_simp
                           with_reducible rfl
                          rotate_left
                          ·simp only [Act.put, List.setIfInBounds_toArray, List.set_cons_zero, List.set_cons_succ, i64_w, i32_w]
                           rfl
                          refine take_ (i := 2) (N := some 85) (v := ?_) (a' := ?_) #[true, true, true, false, false, true, true, false, false, false, false] rfl rfl (take_ofW HT_.out HW_.out (by kernel_rfl)) (fun _ _ _ h => h) (Or.inl ⟨by rfl, ?_⟩) hHeld ?_ ?_
                          rotate_left
                          ·rintro w' ⟨s0, s1, s2, s3, s4, s5⟩
                           go_simp
                           with_reducible rfl
                          rotate_left
                          ·simp only [Act.put, List.setIfInBounds_toArray, List.set_cons_zero, List.set_cons_succ, i64_w, i32_w]
                           rfl
                          refine pure_ (i := 3) (N := some 86) (v := ?_) (a' := ?_) #[true, true, true, true, false, true, true, false, false, false, false] rfl rfl (any_of HT_.out (by kernel_rfl)) (fun _ _ _ h => h) (Or.inl ⟨by rfl, ?_⟩) ?_ ?_
                          rotate_left
                          ·intro w'
                           go_simp
                           with_reducible rfl
                          rotate_left
                          ·simp only [Act.put, List.setIfInBounds_toArray, List.set_cons_zero, List.set_cons_succ, i64_w, i32_w]
                           rfl
                          refine take_ (i := 4) (N := some 87) (v := ?_) (a' := ?_) #[true, true, true, true, true, true, true, false, false, false, false] rfl rfl (take_ofW HT_.out HW_.out (by kernel_rfl)) (fun _ _ _ h => h) (Or.inl ⟨by rfl, ?_⟩) hHeld ?_ ?_
                          rotate_left
                          ·rintro w' ⟨s0, s1, s2, s3, s4, s5⟩
                           go_simp
                           with_reducible rfl
                          rotate_left
                          ·simp only [Act.put, List.setIfInBounds_toArray, List.set_cons_zero, List.set_cons_succ, i64_w, i32_w]
                           rfl
                          refine take_ (i := 7) (N := some 90) (v := ?_) (a' := ?_) #[true, true, true, true, true, true, true, true, false, false, false] rfl rfl (take_ofW HT_.out HW_.out (by kernel_rfl)) (fun _ _ _ h => h) (Or.inl ⟨by rfl, ?_⟩) hHeld ?_ ?_
                          rotate_left
                          ·rintro w' ⟨s0, s1, s2, s3, s4, s5⟩
                           go_simp
                           with_reducible rfl
                          rotate_left
                          ·simp only [Act.put, List.setIfInBounds_toArray, List.set_cons_zero, List.set_cons_succ, i64_w, i32_w]
                           rfl
                          refine pure_ (i := 8) (N := some 91) (v := ?_) (a' := ?_) #[true, true, true, true, true, true, true, true, true, false, false] rfl rfl (any_of HT_.out (by kernel_rfl)) (fun _ _ _ h => h) (Or.inl ⟨by rfl, ?_⟩) ?_ ?_
                          rotate_left
                          ·intro w'
                           go_simp
                           with_reducible rfl
                          rotate_left
                          ·simp only [Act.put, List.setIfInBounds_toArray, List.set_cons_zero, List.set_cons_succ, i64_w, i32_w]
                           rfl
                          refine take_ (i := 9) (N := some 92) (v := ?_) (a' := ?_) #[true, true, true, true, true, true, true, true, true, true, false] rfl rfl (take_ofW HT_.out HW_.out (by kernel_rfl)) (fun _ _ _ h => h) (Or.inl ⟨by rfl, ?_⟩) hHeld ?_ ?_
                          rotate_left
                          ·rintro w' ⟨s0, s1, s2, s3, s4, s5⟩
                           go_simp
                           with_reducible rfl
                          rotate_left
                          ·simp only [Act.put, List.setIfInBounds_toArray, List.set_cons_zero, List.set_cons_succ, i64_w, i32_w]
                           rfl
                          refine pure_ (i := 10) (N := some 93) (v := ?_) (a' := ?_) #[true, true, true, true, true, true, true, true, true, true, true] rfl rfl (any_of HT_.out (by kernel_rfl)) (fun _ _ _ h => h) (Or.inl ⟨by rfl, ?_⟩) ?_ ?_
                          rotate_left
                          ·intro w'
                           go_simp
                           with_reducible rfl
                          rotate_left
                          ·simp only [Act.put, List.setIfInBounds_toArray, List.set_cons_zero, List.set_cons_succ, i64_w, i32_w]
                           rfl
                          refine done_ (done_of HT_.out (by kernel_rfl)) ?_
                          try go_wp2
                          replace HO_12 := Ω5 (Ω3 HO_12.out)
                          replace HO_13 := Ω5 (Ω3 HO_13.out)
                          replace BK153 := Ω5 (ΩC BK153.out)
                          replace HB := Ω5 (Ω8 HB.out)
                          have p159 : 0 ≤ (((rd_T92 (rd_L5 l0 x11_3) x14_4).f0) : Int) := of_decide_eq_true (by first | (with_reducible assumption) | assumption)
                          have q159 : ((rd_T92 (rd_L5 l0 x11_3) x14_4).f0) < (y156.length : Int) := (by have h_ : (((rd_T92 (rd_L5 l0 x11_3) x14_4).f0) : Int) < ((x12_4.length : Int) : Int) := of_decide_eq_true (by first | (with_reducible assumption) | assumption); first | (have e_ := (Kd.R_reads' HO_12.out).1; omega) | simpa only [Ny156.out, List.length_set] using h_)
                          have ql159 : ((((rd_T92 (rd_L5 l0 x11_3) x14_4).f0) : Int) < ((x12_4.length : Int) : Int)) = True := eq_true (of_decide_eq_true (by first | (with_reducible assumption) | assumption))
                          obtain ⟨ad159, e159, hx159_0⟩ := Kd.at_int (Kd.R_reads' HO_12.out).2.2 ((rd_T92 (rd_L5 l0 x11_3) x14_4).f0) p159 q159
                          obtain rfl : (⟨go37, 0, none⟩ : Addr) = ad159 := (by injection e159)
                          (first | simp only [add_plain] at hx159_0 | simp only [add_at] at hx159_0 | simp only [Addr.add, Nat.zero_add] at hx159_0 | skip)
                          replace p159 := eq_true p159
                          replace q159 := eq_true q159
                          have p40 : 0 ≤ (((rd_T92 (rd_L5 l0 x11_3) x14_4).f0) : Int) := of_decide_eq_true (by first | (with_reducible assumption) | assumption)
                          have q40 : (((rd_T92 (rd_L5 l0 x11_3) x14_4).f0) : Int) < ((x13_4.length : Int) : Int) := of_decide_eq_true (by first | (with_reducible assumption) | assumption)
                          obtain ⟨go40, co40, eo40, gb40, gl40, cl40, HG40⟩ := Kd.R_form HO_13.out (by omega)
                          (first | cases eo40 | (injection eo40 with ea_ en_ ec_; (first | subst ea_ | (injection ea_ with ea_; subst ea_)); subst ec_; clear en_))
                          have GB40 := Ω5 gb40
                          have GG40 := Ω5 HG40
                          clear gb40 gl40 HG40
                          (first | simp only [add_plain] at hx158_0 | skip)
                          obtain ⟨hx40_0, hf40_0⟩ := Kd.R_celln 0 HO_13.out (((rd_T92 (rd_L5 l0 x11_3) x14_4).f0) : Int) p40 q40
                          replace p40 := eq_true p40
                          replace q40 := eq_true q40
                          have HP55 := Kd.R_putn HO_13.out (((rd_T92 (rd_L5 l0 x11_3) x14_4).f0) : Int) (rd y156 ((rd_T92 (rd_L5 l0 x11_3) x14_4).f0))
                          rw [← Ny160.out] at HP55
                          have HQ55 := Ω5 HP55
                          clear HP55
                          refine start_ (n := 10) (S := fun w' => w'.cell? ⟨gb153, 0, none⟩ = some (.int .i64 ((rd_T92 (rd_L5 l0 x11_3) x14_4).f0)) ∧ w'.cell? ⟨gb153, 1, none⟩ = some (.int .i64 ((rd_T92 (rd_L5 l0 x11_3) x14_4).f1)) ∧ w'.cell? ⟨gb153, 2, none⟩ = some (.int .i64 ((rd_T92 (rd_L5 l0 x11_3) x14_4).f2)) ∧ w'.cell? ⟨gb153, 3, none⟩ = some (.bool ((rd_T92 (rd_L5 l0 x11_3) x14_4).f3)) ∧ w'.cell? ⟨go37, (((rd_T92 (rd_L5 l0 x11_3) x14_4).f0)).toNat, none⟩ = some (.int .i64 (rd y156 ((rd_T92 (rd_L5 l0 x11_3) x14_4).f0)))) (ds := [9]) #[false, false, false, false, false, false, false, false, false, false] (by kernel_rfl) rfl rfl ⟨(ΩJ BK153.out 0).trans rfl, (ΩJ BK153.out 1).trans rfl, (ΩJ BK153.out 2).trans rfl, (ΩJ BK153.out 3).trans rfl, hx159_0⟩ (fun hHeld => ?_); refine with_tabW spec_Finish.tab20 spec_Finish.bits20 (fun HT_ HW_ => ?_)
                          generalize w52.drew = w54 at HO_12 HO_13 BK153 HB GG40 HQ55 hf40_0 hx158_0 hx159_0 hx40_0 hHeld ⊢
                          refine pure_ (i := 0) (N := some 94) (v := ?_) (a' := ?_) #[true, false, false, false, false, false, false, false, false, false] rfl rfl (any_of HT_.out (by kernel_rfl)) (fun _ _ _ h => h) (Or.inl ⟨by rfl, ?_⟩) ?_ ?_
                          rotate_left
                          ·intro w'
                           go_simp
                           with_reducible rfl
                          rotate_left
                          ·simp only [Act.put, List.setIfInBounds_toArray, List.set_cons_zero, List.set_cons_succ, i64_w, i32_w]
                           rfl
                          refine pure_ (i := 1) (N := some 95) (v := ?_) (a' := ?_) #[true, true, false, false, false, false, false, false, false, false] rfl rfl (any_of HT_.out (by kernel_rfl)) (fun _ _ _ h => h) (Or.inl ⟨by rfl, ?_⟩) ?_ ?_
                          rotate_left
                          ·intro w'
                           go_simp
                           with_reducible rfl
                          rotate_left
                          ·simp only [Act.put, List.setIfInBounds_toArray, List.set_cons_zero, List.set_cons_succ, i64_w, i32_w]
                           rfl
                          refine pure_ (i := 3) (N := some 97) (v := ?_) (a' := ?_) #[true, true, false, true, false, false, false, false, false, false] rfl rfl (any_of HT_.out (by kernel_rfl)) (fun _ _ _ h => h) (Or.inl ⟨by rfl, ?_⟩) ?_ ?_
                          rotate_left
                          ·intro w'
                           go_simp
                           with_reducible rfl
                          rotate_left
                          ·simp only [Act.put, List.setIfInBounds_toArray, List.set_cons_zero, List.set_cons_succ, i64_w, i32_w]
                           rfl
                          refine pure_ (i := 4) (N := some 98) (v := ?_) (a' := ?_) #[true, true, false, true, true, false, false, false, false, false] rfl rfl (any_of HT_.out (by kernel_rfl)) (fun _ _ _ h => h) (Or.inl ⟨by rfl, ?_⟩) ?_ ?_
                          rotate_left
                          ·intro w'
                           go_simp
                           with_reducible rfl
                          rotate_left
                          ·simp only [Act.put, List.setIfInBounds_toArray, List.set_cons_zero, List.set_cons_succ, i64_w, i32_w]
                           rfl
                          refine take_ (i := 2) (N := some 96) (v := ?_) (a' := ?_) #[true, true, true, true, true, false, false, false, false, false] rfl rfl (take_ofW HT_.out HW_.out (by kernel_rfl)) (fun _ _ _ h => h) (Or.inl ⟨by rfl, ?_⟩) hHeld ?_ ?_
                          rotate_left
                          ·rintro w' ⟨s0, s1, s2, s3, s4⟩
                           go_simp
                           with_reducible rfl
                          rotate_left
                          ·simp only [Act.put, List.setIfInBounds_toArray, List.set_cons_zero, List.set_cons_succ, i64_w, i32_w]
                           rfl
                          refine take_ (i := 5) (N := some 99) (v := ?_) (a' := ?_) #[true, true, true, true, true, true, false, false, false, false] rfl rfl (take_ofW HT_.out HW_.out (by kernel_rfl)) (fun _ _ _ h => h) (Or.inl ⟨by rfl, ?_⟩) hHeld ?_ ?_
                          rotate_left
                          ·rintro w' ⟨s0, s1, s2, s3, s4⟩
                           go_simp
                           with_reducible rfl
                          rotate_left
                          ·simp only [Act.put, List.setIfInBounds_toArray, List.set_cons_zero, List.set_cons_succ, i64_w, i32_w]
                           rfl
                          refine pure_ (i := 6) (N := some 100) (v := ?_) (a' := ?_) #[true, true, true, true, true, true, true, false, false, false] rfl rfl (any_of HT_.out (by kernel_rfl)) (fun _ _ _ h => h) (Or.inl ⟨by rfl, ?_⟩) ?_ ?_
                          rotate_left
                          ·intro w'
                           go_simp
                           with_reducible rfl
                          rotate_left
                          ·simp only [Act.put, List.setIfInBounds_toArray, List.set_cons_zero, List.set_cons_succ, i64_w, i32_w]
                           rfl
                          refine take_ (i := 7) (N := some 101) (v := ?_) (a' := ?_) #[true, true, true, true, true, true, true, true, false, false] rfl rfl (take_ofW HT_.out HW_.out (by kernel_rfl)) (fun _ _ _ h => h) (Or.inl ⟨by rfl, ?_⟩) hHeld ?_ ?_
                          rotate_left
                          ·rintro w' ⟨s0, s1, s2, s3, s4⟩
                           go_simp
                           with_reducible rfl
                          rotate_left
                          ·simp only [Act.put, List.setIfInBounds_toArray, List.set_cons_zero, List.set_cons_succ, i64_w, i32_w]
                           rfl
                          refine pure_ (i := 8) (N := some 102) (v := ?_) (a' := ?_) #[true, true, true, true, true, true, true, true, true, false] rfl rfl (any_of HT_.out (by kernel_rfl)) (fun _ _ _ h => h) (Or.inl ⟨by rfl, ?_⟩) ?_ ?_
                          rotate_left
                          ·intro w'
                           go_simp
                           with_reducible rfl
                          rotate_left
                          ·simp only [Act.put, List.setIfInBounds_toArray, List.set_cons_zero, List.set_cons_succ, i64_w, i32_w]
                           rfl
                          refine last_ (i := 9) (N := none) #[true, true, true, true, true, true, true, true, true, true] rfl rfl (one_of HT_.out (by kernel_rfl)) (by decide) (fun K hK => ?_)
                          refine skip_ (w1 := ?_) (by rfl) rfl ?_ ?_
                          rotate_left
                          ·go_simp
                           rfl
                          refine hK.out _ _ ?_
                          clear hK K
                          refine done_ (done_of HT_.out (by kernel_rfl)) ?_
                          try go_wp2
                          have n0_ : Aside0 (Kd.R (Kd.int .i64) 3 (w54.setCell ⟨go40, (((rd_T92 (rd_L5 l0 x11_3) x14_4).f0) : Int).toNat, none⟩ (.int .i64 (rd y156 ((rd_T92 (rd_L5 l0 x11_3) x14_4).f0)))) w.heap.size (fun k_ => some k_ ≠ (.slice (some ⟨go40, 0, none⟩) x13_4.length co53 : Value).ownBlock) (.slice (some ⟨go37, 0, none⟩) x12_4.length co49) y156) := ⟨by (with_reducible repeat (first | apply Ω1 | apply Ω2 | apply Ω3)); exact ΩE (Ω4 (p := ⟨go40, (((rd_T92 (rd_L5 l0 x11_3) x14_4).f0) : Int).toNat, none⟩) (ΩE HO_12.out (fun k_ hk => (⟨hk, fun e_ => hk (by rw [e_]; rfl)⟩ : _ ∧ k_ ≠ go40))) (fun _ hk => hk.2) (.int .i64 (rd y156 ((rd_T92 (rd_L5 l0 x11_3) x14_4).f0)))) (fun _ hk => hk.1)⟩
                          have n1_ : Aside0 (Kd.R (Kd.int .i64) 3 (w54.setCell ⟨go40, (((rd_T92 (rd_L5 l0 x11_3) x14_4).f0) : Int).toNat, none⟩ (.int .i64 (rd y156 ((rd_T92 (rd_L5 l0 x11_3) x14_4).f0)))) w.heap.size (fun k_ => some k_ ≠ (.slice (some ⟨go37, 0, none⟩) x12_4.length co49 : Value).ownBlock) (.slice (some ⟨go40, 0, none⟩) x13_4.length co53) y160) := ⟨by (with_reducible repeat (first | apply Ω1 | apply Ω2 | apply Ω3)); exact HQ55.out⟩
                          have n2_ : Aside0 ((w54.setCell ⟨go40, (((rd_T92 (rd_L5 l0 x11_3) x14_4).f0) : Int).toNat, none⟩ (.int .i64 (rd y156 ((rd_T92 (rd_L5 l0 x11_3) x14_4).f0)))).heap[gb153]? = some (.cells #[.int .i64 ((rd_T92 (rd_L5 l0 x11_3) x14_4).f0), .int .i64 ((rd_T92 (rd_L5 l0 x11_3) x14_4).f1), .int .i64 ((rd_T92 (rd_L5 l0 x11_3) x14_4).f2), .bool ((rd_T92 (rd_L5 l0 x11_3) x14_4).f3)] 92 (0, 0))) := ⟨by (with_reducible repeat (first | refine ΩA ?_ _ | refine ΩC ?_ | refine ΩB ?_ _)); refine blk_far ?_ (by have h_ := Kd.R_ne HO_13.out BK153.out (by decide); intro e_; exact h_ (by rw [e_]; rfl)) _; (with_reducible repeat (first | refine ΩA ?_ _ | refine ΩC ?_ | refine ΩB ?_ _)); exact BK153.out⟩
                          have n3_ : Aside0 (Below w.heap.size w (w54.setCell ⟨go40, (((rd_T92 (rd_L5 l0 x11_3) x14_4).f0) : Int).toNat, none⟩ (.int .i64 (rd y156 ((rd_T92 (rd_L5 l0 x11_3) x14_4).f0))))) := ⟨HBu HB.out⟩
                          (try clear HO_12)
                          (try clear HO_13)
                          (try clear BK153)
                          (try clear HB)
                          generalize (w54.setCell ⟨go40, (((rd_T92 (rd_L5 l0 x11_3) x14_4).f0) : Int).toNat, none⟩ (.int .i64 (rd y156 ((rd_T92 (rd_L5 l0 x11_3) x14_4).f0)))) = w56 at n0_ n1_ n2_ n3_ ⊢
                          have HO_12 := n0_
                          have HO_13 := n1_
                          have BK153 := n2_
                          have HB := n3_
                          clear n0_ n1_ n2_ n3_
                          replace HO_12 := Ω5 (Ω3 HO_12.out)
                          replace HO_13 := Ω5 (Ω3 HO_13.out)
                          replace BK153 := Ω5 (ΩC BK153.out)
                          replace HB := Ω5 (Ω8 HB.out)
                          have p161 : 0 ≤ (((rd_T92 (rd_L5 l0 x11_3) x14_4).f0) : Int) := of_decide_eq_true (by first | (with_reducible assumption) | assumption)
                          have q161 : ((rd_T92 (rd_L5 l0 x11_3) x14_4).f0) < (y156.length : Int) := (by have h_ : (((rd_T92 (rd_L5 l0 x11_3) x14_4).f0) : Int) < ((x12_4.length : Int) : Int) := of_decide_eq_true (by first | (with_reducible assumption) | assumption); first | (have e_ := (Kd.R_reads' HO_12.out).1; omega) | simpa only [Ny156.out, List.length_set] using h_)
                          have ql161 : ((((rd_T92 (rd_L5 l0 x11_3) x14_4).f0) : Int) < ((x12_4.length : Int) : Int)) = True := eq_true (of_decide_eq_true (by first | (with_reducible assumption) | assumption))
                          obtain ⟨ad161, e161, hx161_0⟩ := Kd.at_int (Kd.R_reads' HO_12.out).2.2 ((rd_T92 (rd_L5 l0 x11_3) x14_4).f0) p161 q161
                          obtain rfl : (⟨go37, 0, none⟩ : Addr) = ad161 := (by injection e161)
                          (first | simp only [add_plain] at hx161_0 | simp only [add_at] at hx161_0 | simp only [Addr.add, Nat.zero_add] at hx161_0 | skip)
                          replace p161 := eq_true p161
                          replace q161 := eq_true q161
                          have p162 : 0 ≤ (((rd_T92 (rd_L5 l0 x11_3) x14_4).f1) : Int) := of_decide_eq_true (by first | (with_reducible assumption) | assumption)
                          have q162 : ((rd_T92 (rd_L5 l0 x11_3) x14_4).f1) < (y160.length : Int) := (by have h_ : (((rd_T92 (rd_L5 l0 x11_3) x14_4).f1) : Int) < ((x13_4.length : Int) : Int) := of_decide_eq_true (by first | (with_reducible assumption) | assumption); first | (have e_ := (Kd.R_reads' HO_13.out).1; omega) | simpa only [Ny160.out, List.length_set] using h_)
                          have ql162 : ((((rd_T92 (rd_L5 l0 x11_3) x14_4).f1) : Int) < ((x13_4.length : Int) : Int)) = True := eq_true (of_decide_eq_true (by first | (with_reducible assumption) | assumption))
                          obtain ⟨ad162, e162, hx162_0⟩ := Kd.at_int (Kd.R_reads' HO_13.out).2.2 ((rd_T92 (rd_L5 l0 x11_3) x14_4).f1) p162 q162
                          obtain rfl : (⟨go40, 0, none⟩ : Addr) = ad162 := (by injection e162)
                          (first | simp only [add_plain] at hx162_0 | simp only [add_at] at hx162_0 | simp only [Addr.add, Nat.zero_add] at hx162_0 | skip)
                          replace p162 := eq_true p162
                          replace q162 := eq_true q162
                          refine start_ (n := 11) (S := fun w' => w'.cell? ⟨gb153, 0, none⟩ = some (.int .i64 ((rd_T92 (rd_L5 l0 x11_3) x14_4).f0)) ∧ w'.cell? ⟨gb153, 1, none⟩ = some (.int .i64 ((rd_T92 (rd_L5 l0 x11_3) x14_4).f1)) ∧ w'.cell? ⟨gb153, 2, none⟩ = some (.int .i64 ((rd_T92 (rd_L5 l0 x11_3) x14_4).f2)) ∧ w'.cell? ⟨gb153, 3, none⟩ = some (.bool ((rd_T92 (rd_L5 l0 x11_3) x14_4).f3)) ∧ w'.cell? ⟨go37, (((rd_T92 (rd_L5 l0 x11_3) x14_4).f0)).toNat, none⟩ = some (.int .i64 (rd y156 ((rd_T92 (rd_L5 l0 x11_3) x14_4).f0))) ∧ w'.cell? ⟨go40, (((rd_T92 (rd_L5 l0 x11_3) x14_4).f1)).toNat, none⟩ = some (.int .i64 (rd y160 ((rd_T92 (rd_L5 l0 x11_3) x14_4).f1)))) (ds := []) #[false, false, false, false, false, false, false, false, false, false, false] (by kernel_rfl) rfl rfl ⟨(ΩJ BK153.out 0).trans rfl, (ΩJ BK153.out 1).trans rfl, (ΩJ BK153.out 2).trans rfl, (ΩJ BK153.out 3).trans rfl, hx161_0, hx162_0⟩ (fun hHeld => ?_); refine with_tabW spec_Finish.tab21 spec_Finish.bits21 (fun HT_ HW_ => ?_)
                          generalize w56.drew = w57 at HO_12 HO_13 BK153 HB HQ55 hx161_0 hx162_0 hHeld ⊢
                          refine pure_ (i := 0) (N := some 103) (v := ?_) (a' := ?_) #[true, false, false, false, false, false, false, false, false, false, false] rfl rfl (any_of HT_.out (by kernel_rfl)) (fun _ _ _ h => h) (Or.inl ⟨by rfl, ?_⟩) ?_ ?_
                          rotate_left
                          ·intro w'
                           go_simp
                           with_reducible rfl
                          rotate_left
                          ·simp only [Act.put, List.setIfInBounds_toArray, List.set_cons_zero, List.set_cons_succ, i64_w, i32_w]
                           rfl
                          refine pure_ (i := 1) (N := some 104) (v := ?_) (a' := ?_) #[true, true, false, false, false, false, false, false, false, false, false] rfl rfl (any_of HT_.out (by kernel_rfl)) (fun _ _ _ h => h) (Or.inl ⟨by rfl, ?_⟩) ?_ ?_
                          rotate_left
                          ·intro w'
                           go_simp
                           with_reducible rfl
                          rotate_left
                          ·simp only [Act.put, List.setIfInBounds_toArray, List.set_cons_zero, List.set_cons_succ, i64_w, i32_w]
                           rfl
                          refine pure_ (i := 5) (N := some 108) (v := ?_) (a' := ?_) #[true, true, false, false, false, true, false, false, false, false, false] rfl rfl (any_of HT_.out (by kernel_rfl)) (fun _ _ _ h => h) (Or.inl ⟨by rfl, ?_⟩) ?_ ?_
                          rotate_left
                          ·intro w'
                           go_simp
                           with_reducible rfl
                          rotate_left
                          ·simp only [Act.put, List.setIfInBounds_toArray, List.set_cons_zero, List.set_cons_succ, i64_w, i32_w]
                           rfl
                          refine pure_ (i := 6) (N := some 109) (v := ?_) (a' := ?_) #[true, true, false, false, false, true, true, false, false, false, false] rfl rfl (any_of HT_.out (by kernel_rfl)) (fun _ _ _ h => h) (Or.inl ⟨by rfl, ?_⟩) ?_ ?_
                          rotate_left
                          ·intro w'
                           go_simp
                           with_reducible rfl
                          rotate_left
                          ·simp only [Act.put, List.setIfInBounds_toArray, List.set_cons_zero, List.set_cons_succ, i64_w, i32_w]
                           rfl
                          refine take_ (i := 2) (N := some 105) (v := ?_) (a' := ?_) #[true, true, true, false, false, true, true, false, false, false, false] rfl rfl (take_ofW HT_.out HW_.out (by kernel_rfl)) (fun _ _ _ h => h) (Or.inl ⟨by rfl, ?_⟩) hHeld ?_ ?_
                          rotate_left
                          ·rintro w' ⟨s0, s1, s2, s3, s4, s5⟩
                           go_simp
                           with_reducible rfl
                          rotate_left
                          ·simp only [Act.put, List.setIfInBounds_toArray, List.set_cons_zero, List.set_cons_succ, i64_w, i32_w]
                           rfl
                          refine pure_ (i := 3) (N := some 106) (v := ?_) (a' := ?_) #[true, true, true, true, false, true, true, false, false, false, false] rfl rfl (any_of HT_.out (by kernel_rfl)) (fun _ _ _ h => h) (Or.inl ⟨by rfl, ?_⟩) ?_ ?_
                          rotate_left
                          ·intro w'
                           go_simp
                           with_reducible rfl
                          rotate_left
                          ·simp only [Act.put, List.setIfInBounds_toArray, List.set_cons_zero, List.set_cons_succ, i64_w, i32_w]
                           rfl
                          refine take_ (i := 4) (N := some 107) (v := ?_) (a' := ?_) #[true, true, true, true, true, true, true, false, false, false, false] rfl rfl (take_ofW HT_.out HW_.out (by kernel_rfl)) (fun _ _ _ h => h) (Or.inl ⟨by rfl, ?_⟩) hHeld ?_ ?_
                          rotate_left
                          ·rintro w' ⟨s0, s1, s2, s3, s4, s5⟩
                           go_simp
                           with_reducible rfl
                          rotate_left
                          ·simp only [Act.put, List.setIfInBounds_toArray, List.set_cons_zero, List.set_cons_succ, i64_w, i32_w]
                           rfl
                          refine take_ (i := 7) (N := some 110) (v := ?_) (a' := ?_) #[true, true, true, true, true, true, true, true, false, false, false] rfl rfl (take_ofW HT_.out HW_.out (by kernel_rfl)) (fun _ _ _ h => h) (Or.inl ⟨by rfl, ?_⟩) hHeld ?_ ?_
                          rotate_left
                          ·rintro w' ⟨s0, s1, s2, s3, s4, s5⟩
                           go_simp
                           with_reducible rfl
                          rotate_left
                          ·simp only [Act.put, List.setIfInBounds_toArray, List.set_cons_zero, List.set_cons_succ, i64_w, i32_w]
                           rfl
                          refine pure_ (i := 8) (N := some 111) (v := ?_) (a' := ?_) #[true, true, true, true, true, true, true, true, true, false, false] rfl rfl (any_of HT_.out (by kernel_rfl)) (fun _ _ _ h => h) (Or.inl ⟨by rfl, ?_⟩) ?_ ?_
                          rotate_left
                          ·intro w'
                           go_simp
                           with_reducible rfl
                          rotate_left
                          ·simp only [Act.put, List.setIfInBounds_toArray, List.set_cons_zero, List.set_cons_succ, i64_w, i32_w]
                           rfl
                          refine take_ (i := 9) (N := some 112) (v := ?_) (a' := ?_) #[true, true, true, true, true, true, true, true, true, true, false] rfl rfl (take_ofW HT_.out HW_.out (by kernel_rfl)) (fun _ _ _ h => h) (Or.inl ⟨by rfl, ?_⟩) hHeld ?_ ?_
                          rotate_left
                          ·rintro w' ⟨s0, s1, s2, s3, s4, s5⟩
                           go_simp
                           with_reducible rfl
                          rotate_left
                          ·simp only [Act.put, List.setIfInBounds_toArray, List.set_cons_zero, List.set_cons_succ, i64_w, i32_w]
                           rfl
                          refine pure_ (i := 10) (N := some 113) (v := ?_) (a' := ?_) #[true, true, true, true, true, true, true, true, true, true, true] rfl rfl (any_of HT_.out (by kernel_rfl)) (fun _ _ _ h => h) (Or.inl ⟨by rfl, ?_⟩) ?_ ?_
                          rotate_left
                          ·intro w'
                           go_simp
                           with_reducible rfl
                          rotate_left
                          ·simp only [Act.put, List.setIfInBounds_toArray, List.set_cons_zero, List.set_cons_succ, i64_w, i32_w]
                           rfl
                          refine done_ (done_of HT_.out (by kernel_rfl)) ?_
                          try go_wp2
                          replace HO_12 := Ω5 (Ω3 HO_12.out)
                          replace HO_13 := Ω5 (Ω3 HO_13.out)
                          replace BK153 := Ω5 (ΩC BK153.out)
                          replace HB := Ω5 (Ω8 HB.out)
                          have p163 : 0 ≤ (((rd_T92 (rd_L5 l0 x11_3) x14_4).f0) : Int) := of_decide_eq_true (by first | (with_reducible assumption) | assumption)
                          have q163 : ((rd_T92 (rd_L5 l0 x11_3) x14_4).f0) < (y156.length : Int) := (by have h_ : (((rd_T92 (rd_L5 l0 x11_3) x14_4).f0) : Int) < ((x12_4.length : Int) : Int) := of_decide_eq_true (by first | (with_reducible assumption) | assumption); first | (have e_ := (Kd.R_reads' HO_12.out).1; omega) | simpa only [Ny156.out, List.length_set] using h_)
                          have ql163 : ((((rd_T92 (rd_L5 l0 x11_3) x14_4).f0) : Int) < ((x12_4.length : Int) : Int)) = True := eq_true (of_decide_eq_true (by first | (with_reducible assumption) | assumption))
                          obtain ⟨ad163, e163, hx163_0⟩ := Kd.at_int (Kd.R_reads' HO_12.out).2.2 ((rd_T92 (rd_L5 l0 x11_3) x14_4).f0) p163 q163
                          obtain rfl : (⟨go37, 0, none⟩ : Addr) = ad163 := (by injection e163)
                          (first | simp only [add_plain] at hx163_0 | simp only [add_at] at hx163_0 | simp only [Addr.add, Nat.zero_add] at hx163_0 | skip)
                          replace p163 := eq_true p163
                          replace q163 := eq_true q163
                          have p44 : 0 ≤ (((rd_T92 (rd_L5 l0 x11_3) x14_4).f1) : Int) := of_decide_eq_true (by first | (with_reducible assumption) | assumption)
                          have q44 : (((rd_T92 (rd_L5 l0 x11_3) x14_4).f1) : Int) < ((x13_4.length : Int) : Int) := of_decide_eq_true (by first | (with_reducible assumption) | assumption)
                          obtain ⟨hx44_0, hf44_0⟩ := Kd.R_celln 0 HO_13.out (((rd_T92 (rd_L5 l0 x11_3) x14_4).f1) : Int) p44 q44
                          replace p44 := eq_true p44
                          replace q44 := eq_true q44
                          have HP59 := Kd.R_putn HO_13.out (((rd_T92 (rd_L5 l0 x11_3) x14_4).f1) : Int) (rd y156 ((rd_T92 (rd_L5 l0 x11_3) x14_4).f0))
                          rw [← Ny164.out] at HP59
                          have HQ59 := Ω5 HP59
                          clear HP59
                          refine start_ (n := 10) (S := fun w' => w'.cell? ⟨gb153, 0, none⟩ = some (.int .i64 ((rd_T92 (rd_L5 l0 x11_3) x14_4).f0)) ∧ w'.cell? ⟨gb153, 1, none⟩ = some (.int .i64 ((rd_T92 (rd_L5 l0 x11_3) x14_4).f1)) ∧ w'.cell? ⟨gb153, 2, none⟩ = some (.int .i64 ((rd_T92 (rd_L5 l0 x11_3) x14_4).f2)) ∧ w'.cell? ⟨gb153, 3, none⟩ = some (.bool ((rd_T92 (rd_L5 l0 x11_3) x14_4).f3)) ∧ w'.cell? ⟨go37, (((rd_T92 (rd_L5 l0 x11_3) x14_4).f0)).toNat, none⟩ = some (.int .i64 (rd y156 ((rd_T92 (rd_L5 l0 x11_3) x14_4).f0)))) (ds := [9]) #[false, false, false, false, false, false, false, false, false, false] (by kernel_rfl) rfl rfl ⟨(ΩJ BK153.out 0).trans rfl, (ΩJ BK153.out 1).trans rfl, (ΩJ BK153.out 2).trans rfl, (ΩJ BK153.out 3).trans rfl, hx163_0⟩ (fun hHeld => ?_); refine with_tabW spec_Finish.tab22 spec_Finish.bits22 (fun HT_ HW_ => ?_)
                          generalize w57.drew = w58 at HO_12 HO_13 BK153 HB HQ59 hf44_0 hx163_0 hx44_0 hHeld ⊢
                          refine pure_ (i := 0) (N := some 114) (v := ?_) (a' := ?_) #[true, false, false, false, false, false, false, false, false, false] rfl rfl (any_of HT_.out (by kernel_rfl)) (fun _ _ _ h => h) (Or.inl ⟨by rfl, ?_⟩) ?_ ?_
                          rotate_left
                          ·intro w'
                           go_simp
                           with_reducible rfl
                          rotate_left
                          ·simp only [Act.put, List.setIfInBounds_toArray, List.set_cons_zero, List.set_cons_succ, i64_w, i32_w]
                           rfl
                          refine pure_ (i := 1) (N := some 115) (v := ?_) (a' := ?_) #[true, true, false, false, false, false, false, false, false, false] rfl rfl (any_of HT_.out (by kernel_rfl)) (fun _ _ _ h => h) (Or.inl ⟨by rfl, ?_⟩) ?_ ?_
                          rotate_left
                          ·intro w'
                           go_simp
                           with_reducible rfl
                          rotate_left
                          ·simp only [Act.put, List.setIfInBounds_toArray, List.set_cons_zero, List.set_cons_succ, i64_w, i32_w]
                           rfl
                          refine pure_ (i := 3) (N := some 117) (v := ?_) (a' := ?_) #[true, true, false, true, false, false, false, false, false, false] rfl rfl (any_of HT_.out (by kernel_rfl)) (fun _ _ _ h => h) (Or.inl ⟨by rfl, ?_⟩) ?_ ?_
                          rotate_left
                          ·intro w'
                           go_simp
                           with_reducible rfl
                          rotate_left
                          ·simp only [Act.put, List.setIfInBounds_toArray, List.set_cons_zero, List.set_cons_succ, i64_w, i32_w]
                           rfl
                          refine pure_ (i := 4) (N := some 118) (v := ?_) (a' := ?_) #[true, true, false, true, true, false, false, false, false, false] rfl rfl (any_of HT_.out (by kernel_rfl)) (fun _ _ _ h => h) (Or.inl ⟨by rfl, ?_⟩) ?_ ?_
                          rotate_left
                          ·intro w'
                           go_simp
                           with_reducible rfl
                          rotate_left
                          ·simp only [Act.put, List.setIfInBounds_toArray, List.set_cons_zero, List.set_cons_succ, i64_w, i32_w]
                           rfl
                          refine take_ (i := 2) (N := some 116) (v := ?_) (a' := ?_) #[true, true, true, true, true, false, false, false, false, false] rfl rfl (take_ofW HT_.out HW_.out (by kernel_rfl)) (fun _ _ _ h => h) (Or.inl ⟨by rfl, ?_⟩) hHeld ?_ ?_
                          rotate_left
                          ·rintro w' ⟨s0, s1, s2, s3, s4⟩
                           go_simp
                           with_reducible rfl
                          rotate_left
                          ·simp only [Act.put, List.setIfInBounds_toArray, List.set_cons_zero, List.set_cons_succ, i64_w, i32_w]
                           rfl
                          refine take_ (i := 5) (N := some 119) (v := ?_) (a' := ?_) #[true, true, true, true, true, true, false, false, false, false] rfl rfl (take_ofW HT_.out HW_.out (by kernel_rfl)) (fun _ _ _ h => h) (Or.inl ⟨by rfl, ?_⟩) hHeld ?_ ?_
                          rotate_left
                          ·rintro w' ⟨s0, s1, s2, s3, s4⟩
                           go_simp
                           with_reducible rfl
                          rotate_left
                          ·simp only [Act.put, List.setIfInBounds_toArray, List.set_cons_zero, List.set_cons_succ, i64_w, i32_w]
                           rfl
                          refine pure_ (i := 6) (N := some 120) (v := ?_) (a' := ?_) #[true, true, true, true, true, true, true, false, false, false] rfl rfl (any_of HT_.out (by kernel_rfl)) (fun _ _ _ h => h) (Or.inl ⟨by rfl, ?_⟩) ?_ ?_
                          rotate_left
                          ·intro w'
                           go_simp
                           with_reducible rfl
                          rotate_left
                          ·simp only [Act.put, List.setIfInBounds_toArray, List.set_cons_zero, List.set_cons_succ, i64_w, i32_w]
                           rfl
                          refine take_ (i := 7) (N := some 121) (v := ?_) (a' := ?_) #[true, true, true, true, true, true, true, true, false, false] rfl rfl (take_ofW HT_.out HW_.out (by kernel_rfl)) (fun _ _ _ h => h) (Or.inl ⟨by rfl, ?_⟩) hHeld ?_ ?_
                          rotate_left
                          ·rintro w' ⟨s0, s1, s2, s3, s4⟩
                           go_simp
                           with_reducible rfl
                          rotate_left
                          ·simp only [Act.put, List.setIfInBounds_toArray, List.set_cons_zero, List.set_cons_succ, i64_w, i32_w]
                           rfl
                          refine pure_ (i := 8) (N := some 122) (v := ?_) (a' := ?_) #[true, true, true, true, true, true, true, true, true, false] rfl rfl (any_of HT_.out (by kernel_rfl)) (fun _ _ _ h => h) (Or.inl ⟨by rfl, ?_⟩) ?_ ?_
                          rotate_left
                          ·intro w'
                           go_simp
                           with_reducible rfl
                          rotate_left
                          ·simp only [Act.put, List.setIfInBounds_toArray, List.set_cons_zero, List.set_cons_succ, i64_w, i32_w]
                           rfl
                          refine last_ (i := 9) (N := none) #[true, true, true, true, true, true, true, true, true, true] rfl rfl (one_of HT_.out (by kernel_rfl)) (by decide) (fun K hK => ?_)
                          refine skip_ (w1 := ?_) (by rfl) rfl ?_ ?_
                          rotate_left
                          ·go_simp
                           rfl
                          refine hK.out _ _ ?_
                          clear hK K
                          refine done_ (done_of HT_.out (by kernel_rfl)) ?_
                          try go_wp2
                          go_roundg k4
                          case measure => have := HJ4.out; have := HK2.out; have := HK3.out; have := HK4.out; omega
                          case rel => exact ⟨(y156), (y164), (wrap64 (x14_4 + 1)), (by first | rfl | (simp; done) | (simp [*]; done)), H', ⟨by have := HJ4.out; have := HK2.out; have := HK3.out; have := HK4.out; omega⟩, ⟨by (with_reducible repeat (first | apply Ω1 | apply Ω2 | apply Ω3)); exact ΩE (Ω4 (p := ⟨go40, (((rd_T92 (rd_L5 l0 x11_3) x14_4).f1) : Int).toNat, none⟩) (ΩE HO_12.out (fun k_ hk => (⟨hk, fun e_ => hk (by rw [e_]; rfl)⟩ : _ ∧ k_ ≠ go40))) (fun _ hk => hk.2) (.int .i64 (rd y156 ((rd_T92 (rd_L5 l0 x11_3) x14_4).f0)))) (fun _ hk => hk.1)⟩, ⟨by (with_reducible repeat (first | apply Ω1 | apply Ω2 | apply Ω3)); exact HQ59.out⟩, ⟨HBu HB.out⟩⟩
                         ·rw [if_neg c43] at H
                          have c43b0 : decide ((rd y160 ((rd_T92 (rd_L5 l0 x11_3) x14_4).f1)) < (rd y156 ((rd_T92 (rd_L5 l0 x11_3) x14_4).f0))) = false := decide_eq_false c43
                          clear c43
                          have H' := Ω5 H
                          clear H
                          have p150 : 0 ≤ (x11_3 : Int) := of_decide_eq_true (by first | (with_reducible assumption) | assumption)
                          have q150 : x11_3 < (l0.length : Int) := of_decide_eq_true (by first | (with_reducible assumption) | assumption)
                          obtain ⟨ad150, A150_0, c150_0, e150, hx150_0, hl150_0, hi150_0⟩ := at_L5 HR0.out x11_3 p150 q150
                          cases e150
                          replace hx150_0 := (HB.out.cell (World.block_lt_of_cell? w _ hx150_0)).trans hx150_0
                          have HR150_0 := Ω5 hi150_0
                          have HC150_0 := Ω5 hl150_0
                          clear hi150_0 hl150_0
                          replace p150 := eq_true p150
                          replace q150 := eq_true q150
                          have p151 : 0 ≤ (x11_3 : Int) := of_decide_eq_true (by first | (with_reducible assumption) | assumption)
                          have q151 : x11_3 < (l0.length : Int) := of_decide_eq_true (by first | (with_reducible assumption) | assumption)
                          obtain ⟨ad151, A151_0, c151_0, e151, hx151_0, hl151_0, hi151_0⟩ := at_L5 HR0.out x11_3 p151 q151
                          obtain rfl : ad150 = ad151 := (by injection e151)
                          replace hx151_0 := (HB.out.cell (World.block_lt_of_cell? w _ hx151_0)).trans hx151_0
                          have HR151_0 := Ω5 hi151_0
                          have HC151_0 := Ω5 hl151_0
                          clear hi151_0 hl151_0
                          replace p151 := eq_true p151
                          replace q151 := eq_true q151
                          have ea_ := Option.some.inj (hx150_0.symm.trans hx151_0)
                          injection ea_ with ea_ en_ ec_
                          subst ea_
                          subst ec_
                          clear en_
                          have p152 : 0 ≤ (x14_4 : Int) := of_decide_eq_true (by first | (with_reducible assumption) | assumption)
                          have q152 : x14_4 < ((rd_L5 l0 x11_3).length : Int) := of_decide_eq_true (by first | (with_reducible assumption) | assumption)
                          obtain ⟨ad152, e152, hx152_0, hx152_1, hx152_2, hx152_3⟩ := at_T92 HR151_0.out x14_4 p152 q152
                          cases e152
                          replace hx152_0 := (HB.out.cell (World.block_lt_of_cell? w _ hx152_0)).trans hx152_0
                          replace hx152_1 := (HB.out.cell (World.block_lt_of_cell? w _ hx152_1)).trans hx152_1
                          replace hx152_2 := (HB.out.cell (World.block_lt_of_cell? w _ hx152_2)).trans hx152_2
                          replace hx152_3 := (HB.out.cell (World.block_lt_of_cell? w _ hx152_3)).trans hx152_3
                          replace p152 := eq_true p152
                          replace q152 := eq_true q152
                          try go_wp2_with (first | ((with_reducible refine gate_dst (N := 15) rfl ?_); (try (refine gate_guard (by rfl) ?_; dsimp only)); refine box_event ?hg (N := 15) ?hd (cs := #[.int .i64 0, .int .i64 0, .int .i64 0, .bool false]) (t := 92) ?hr ?_; (case hd => rfl); (case hg => rfl); (case hr => first | (go_simp; done) | (go_simp; rfl)); intro gb153 hg w60 hbox hb; have BK153 := Ω5 (hbox); have GW153 := Ω5 ((by rw [hg]; exact (below_size (Hu HB.out)) : w.heap.size ≤ gb153)); have GE153 := Ω5 ((by rw [hg]; exact (below_size (Hu HB.out)) : w.heap.size ≤ gb153)); replace HO_12 := Ω5 (Rb HO_12.out hb); replace HO_13 := Ω5 (Rb HO_13.out hb); replace HB := Ω5 (below_step (Hu HB.out) hb); clear hb hbox hg; have hcz61_0 : w60.cell? ⟨gb153, 0, none⟩ = some (.int .i64 0) := (ΩJ BK153.out 0).trans rfl; have hcz61_1 : w60.cell? ⟨gb153, 1, none⟩ = some (.int .i64 0) := (ΩJ BK153.out 1).trans rfl; have hcz61_2 : w60.cell? ⟨gb153, 2, none⟩ = some (.int .i64 0) := (ΩJ BK153.out 2).trans rfl; have hcz61_3 : w60.cell? ⟨gb153, 3, none⟩ = some (.bool false) := (ΩJ BK153.out 3).trans rfl; have hfz61_0 := ΩF BK153.out 0; have hfz61_1 := ΩF BK153.out 1; have hfz61_2 := ΩF BK153.out 2; have hfz61_3 := ΩF BK153.out 3))
                          have n0_ : Aside0 (Kd.R (Kd.int .i64) 3 ((((w60.setCell ⟨gb153, 0, none⟩ (.int .i64 ((rd_T92 (rd_L5 l0 x11_3) x14_4).f0))).setCell ⟨gb153, 1, none⟩ (.int .i64 ((rd_T92 (rd_L5 l0 x11_3) x14_4).f1))).setCell ⟨gb153, 2, none⟩ (.int .i64 ((rd_T92 (rd_L5 l0 x11_3) x14_4).f2))).setCell ⟨gb153, 3, none⟩ (.bool ((rd_T92 (rd_L5 l0 x11_3) x14_4).f3))) w.heap.size (fun k_ => some k_ ≠ (v148 : Value).ownBlock) v145 x12_4) := ⟨by (with_reducible repeat (first | apply Ω1 | apply Ω2 | apply Ω3)); exact ΩE (Ω4 (p := ⟨gb153, 3, none⟩) (Ω4 (p := ⟨gb153, 2, none⟩) (Ω4 (p := ⟨gb153, 1, none⟩) (Ω4 (p := ⟨gb153, 0, none⟩) (Kd.R_types HO_12.out BK153.out (by decide)) (fun _ hk => hk.2) (.int .i64 ((rd_T92 (rd_L5 l0 x11_3) x14_4).f0))) (fun _ hk => hk.2) (.int .i64 ((rd_T92 (rd_L5 l0 x11_3) x14_4).f1))) (fun _ hk => hk.2) (.int .i64 ((rd_T92 (rd_L5 l0 x11_3) x14_4).f2))) (fun _ hk => hk.2) (.bool ((rd_T92 (rd_L5 l0 x11_3) x14_4).f3))) (fun _ hk => hk.1)⟩
                          have n1_ : Aside0 (Kd.R (Kd.int .i64) 3 ((((w60.setCell ⟨gb153, 0, none⟩ (.int .i64 ((rd_T92 (rd_L5 l0 x11_3) x14_4).f0))).setCell ⟨gb153, 1, none⟩ (.int .i64 ((rd_T92 (rd_L5 l0 x11_3) x14_4).f1))).setCell ⟨gb153, 2, none⟩ (.int .i64 ((rd_T92 (rd_L5 l0 x11_3) x14_4).f2))).setCell ⟨gb153, 3, none⟩ (.bool ((rd_T92 (rd_L5 l0 x11_3) x14_4).f3))) w.heap.size (fun k_ => some k_ ≠ (v145 : Value).ownBlock) v148 x13_4) := ⟨by (with_reducible repeat (first | apply Ω1 | apply Ω2 | apply Ω3)); exact ΩE (Ω4 (p := ⟨gb153, 3, none⟩) (Ω4 (p := ⟨gb153, 2, none⟩) (Ω4 (p := ⟨gb153, 1, none⟩) (Ω4 (p := ⟨gb153, 0, none⟩) (Kd.R_types HO_13.out BK153.out (by decide)) (fun _ hk => hk.2) (.int .i64 ((rd_T92 (rd_L5 l0 x11_3) x14_4).f0))) (fun _ hk => hk.2) (.int .i64 ((rd_T92 (rd_L5 l0 x11_3) x14_4).f1))) (fun _ hk => hk.2) (.int .i64 ((rd_T92 (rd_L5 l0 x11_3) x14_4).f2))) (fun _ hk => hk.2) (.bool ((rd_T92 (rd_L5 l0 x11_3) x14_4).f3))) (fun _ hk => hk.1)⟩
                          have n2_ : Aside0 (((((w60.setCell ⟨gb153, 0, none⟩ (.int .i64 ((rd_T92 (rd_L5 l0 x11_3) x14_4).f0))).setCell ⟨gb153, 1, none⟩ (.int .i64 ((rd_T92 (rd_L5 l0 x11_3) x14_4).f1))).setCell ⟨gb153, 2, none⟩ (.int .i64 ((rd_T92 (rd_L5 l0 x11_3) x14_4).f2))).setCell ⟨gb153, 3, none⟩ (.bool ((rd_T92 (rd_L5 l0 x11_3) x14_4).f3))).heap[gb153]? = some (.cells #[.int .i64 ((rd_T92 (rd_L5 l0 x11_3) x14_4).f0), .int .i64 ((rd_T92 (rd_L5 l0 x11_3) x14_4).f1), .int .i64 ((rd_T92 (rd_L5 l0 x11_3) x14_4).f2), .bool ((rd_T92 (rd_L5 l0 x11_3) x14_4).f3)] 92 (0, 0))) := ⟨by (with_reducible repeat (first | refine ΩA ?_ _ | refine ΩC ?_ | refine ΩB ?_ _)); refine blk_put (cs := #[.int .i64 ((rd_T92 (rd_L5 l0 x11_3) x14_4).f0), .int .i64 ((rd_T92 (rd_L5 l0 x11_3) x14_4).f1), .int .i64 ((rd_T92 (rd_L5 l0 x11_3) x14_4).f2), .bool false]) ?_ 3 _ rfl; (with_reducible repeat (first | refine ΩA ?_ _ | refine ΩC ?_ | refine ΩB ?_ _)); refine blk_put (cs := #[.int .i64 ((rd_T92 (rd_L5 l0 x11_3) x14_4).f0), .int .i64 ((rd_T92 (rd_L5 l0 x11_3) x14_4).f1), .int .i64 0, .bool false]) ?_ 2 _ rfl; (with_reducible repeat (first | refine ΩA ?_ _ | refine ΩC ?_ | refine ΩB ?_ _)); refine blk_put (cs := #[.int .i64 ((rd_T92 (rd_L5 l0 x11_3) x14_4).f0), .int .i64 0, .int .i64 0, .bool false]) ?_ 1 _ rfl; (with_reducible repeat (first | refine ΩA ?_ _ | refine ΩC ?_ | refine ΩB ?_ _)); refine blk_put (cs := #[.int .i64 0, .int .i64 0, .int .i64 0, .bool false]) ?_ 0 _ rfl; (with_reducible repeat (first | refine ΩA ?_ _ | refine ΩC ?_ | refine ΩB ?_ _)); exact BK153.out⟩
                          have n3_ : Aside0 (Below w.heap.size w ((((w60.setCell ⟨gb153, 0, none⟩ (.int .i64 ((rd_T92 (rd_L5 l0 x11_3) x14_4).f0))).setCell ⟨gb153, 1, none⟩ (.int .i64 ((rd_T92 (rd_L5 l0 x11_3) x14_4).f1))).setCell ⟨gb153, 2, none⟩ (.int .i64 ((rd_T92 (rd_L5 l0 x11_3) x14_4).f2))).setCell ⟨gb153, 3, none⟩ (.bool ((rd_T92 (rd_L5 l0 x11_3) x14_4).f3)))) := ⟨HBu HB.out⟩
                          (try clear HO_12)
                          (try clear HO_13)
                          (try clear BK153)
                          (try clear HB)
                          generalize ((((w60.setCell ⟨gb153, 0, none⟩ (.int .i64 ((rd_T92 (rd_L5 l0 x11_3) x14_4).f0))).setCell ⟨gb153, 1, none⟩ (.int .i64 ((rd_T92 (rd_L5 l0 x11_3) x14_4).f1))).setCell ⟨gb153, 2, none⟩ (.int .i64 ((rd_T92 (rd_L5 l0 x11_3) x14_4).f2))).setCell ⟨gb153, 3, none⟩ (.bool ((rd_T92 (rd_L5 l0 x11_3) x14_4).f3))) = w62 at n0_ n1_ n2_ n3_ ⊢
                          have HO_12 := n0_
                          have HO_13 := n1_
                          have BK153 := n2_
                          have HB := n3_
                          clear n0_ n1_ n2_ n3_
                          replace HO_12 := Ω5 (Ω3 HO_12.out)
                          replace HO_13 := Ω5 (Ω3 HO_13.out)
                          replace BK153 := Ω5 (ΩC BK153.out)
                          replace HB := Ω5 (Ω8 HB.out)
                          obtain ⟨Ao64, co64, eo64⟩ := Kd.R_slice HO_12.out
                          (first | subst eo64 | (injection eo64 with f1_ f2_ f3_; have f4_ := f1_.symm; have f5_ := f3_.symm; clear f1_ f2_ f3_; subst f4_; subst f5_))
                          have p154 : 0 ≤ (((rd_T92 (rd_L5 l0 x11_3) x14_4).f0) : Int) := of_decide_eq_true (by first | (with_reducible assumption) | assumption)
                          have q154 : ((rd_T92 (rd_L5 l0 x11_3) x14_4).f0) < (x12_4.length : Int) := of_decide_eq_true (by first | (with_reducible assumption) | assumption)
                          obtain ⟨ad154, e154, hx154_0⟩ := Kd.at_int (Kd.R_reads' HO_12.out).2.2 ((rd_T92 (rd_L5 l0 x11_3) x14_4).f0) p154 q154
                          cases e154
                          replace p154 := eq_true p154
                          replace q154 := eq_true q154
                          have p155 : 0 ≤ (((rd_T92 (rd_L5 l0 x11_3) x14_4).f0) : Int) := of_decide_eq_true (by first | (with_reducible assumption) | assumption)
                          have q155 : ((rd_T92 (rd_L5 l0 x11_3) x14_4).f0) < (l3.length : Int) := of_decide_eq_true (by first | (with_reducible assumption) | assumption)
                          obtain ⟨ad155, e155, hx155_0⟩ := Kd.at_int HR3.out ((rd_T92 (rd_L5 l0 x11_3) x14_4).f0) p155 q155
                          have hw155_0 := hx155_0
                          cases e155
                          replace hx155_0 := (HB.out.cell (World.block_lt_of_cell? w _ hx155_0)).trans hx155_0
                          replace p155 := eq_true p155
                          replace q155 := eq_true q155
                          have p37 : 0 ≤ (((rd_T92 (rd_L5 l0 x11_3) x14_4).f0) : Int) := of_decide_eq_true (by first | (with_reducible assumption) | assumption)
                          have q37 : (((rd_T92 (rd_L5 l0 x11_3) x14_4).f0) : Int) < ((x12_4.length : Int) : Int) := of_decide_eq_true (by first | (with_reducible assumption) | assumption)
                          obtain ⟨go37, co37, eo37, gb37, gl37, cl37, HG37⟩ := Kd.R_form HO_12.out (by omega)
                          (first | cases eo37 | (injection eo37 with ea_ en_ ec_; (first | subst ea_ | (injection ea_ with ea_; subst ea_)); subst ec_; clear en_))
                          have GB37 := Ω5 gb37
                          have GG37 := Ω5 HG37
                          clear gb37 gl37 HG37
                          (first | simp only [add_plain] at hx154_0 | skip)
                          obtain ⟨hx37_0, hf37_0⟩ := Kd.R_celln 0 HO_12.out (((rd_T92 (rd_L5 l0 x11_3) x14_4).f0) : Int) p37 q37
                          replace p37 := eq_true p37
                          replace q37 := eq_true q37
                          have HP65 := Kd.R_putn HO_12.out (((rd_T92 (rd_L5 l0 x11_3) x14_4).f0) : Int) (wrap64 ((rd x12_4 ((rd_T92 (rd_L5 l0 x11_3) x14_4).f0)) + (rd l3 ((rd_T92 (rd_L5 l0 x11_3) x14_4).f0))))
                          rw [← Ny156.out] at HP65
                          have HQ65 := Ω5 HP65
                          clear HP65
                          refine start_ (n := 16) (S := fun w' => w'.cell? ⟨gb153, 0, none⟩ = some (.int .i64 ((rd_T92 (rd_L5 l0 x11_3) x14_4).f0)) ∧ w'.cell? ⟨gb153, 1, none⟩ = some (.int .i64 ((rd_T92 (rd_L5 l0 x11_3) x14_4).f1)) ∧ w'.cell? ⟨gb153, 2, none⟩ = some (.int .i64 ((rd_T92 (rd_L5 l0 x11_3) x14_4).f2)) ∧ w'.cell? ⟨gb153, 3, none⟩ = some (.bool ((rd_T92 (rd_L5 l0 x11_3) x14_4).f3)) ∧ w'.cell? ⟨go37, (((rd_T92 (rd_L5 l0 x11_3) x14_4).f0)).toNat, none⟩ = some (.int .i64 (rd x12_4 ((rd_T92 (rd_L5 l0 x11_3) x14_4).f0))) ∧ w'.cell? (ad155.add (((rd_T92 (rd_L5 l0 x11_3) x14_4).f0)).toNat) = some (.int .i64 (rd l3 ((rd_T92 (rd_L5 l0 x11_3) x14_4).f0)))) (ds := [15]) #[false, false, false, false, false, false, false, false, false, false, false, false, false, false, false, false] (by kernel_rfl) rfl rfl ⟨(ΩJ BK153.out 0).trans rfl, (ΩJ BK153.out 1).trans rfl, (ΩJ BK153.out 2).trans rfl, (ΩJ BK153.out 3).trans rfl, hx154_0, ((HB.out.cell (World.block_lt_of_cell? w _ hw155_0)).trans hw155_0)⟩ (fun hHeld => ?_); refine with_tabW spec_Finish.tab18 spec_Finish.bits18 (fun HT_ HW_ => ?_)
                          generalize w62.drew = w63 at HO_12 HO_13 BK153 HB GG37 HQ65 hf37_0 hx154_0 hx155_0 hx37_0 hHeld ⊢
                          refine pure_ (i := 0) (N := some 68) (v := ?_) (a' := ?_) #[true, false, false, false, false, false, false, false, false, false, false, false, false, false, false, false] rfl rfl (any_of HT_.out (by kernel_rfl)) (fun _ _ _ h => h) (Or.inl ⟨by rfl, ?_⟩) ?_ ?_
                          rotate_left
                          ·intro w'
                           go_simp
                           with_reducible rfl
                          rotate_left
                          ·simp only [Act.put, List.setIfInBounds_toArray, List.set_cons_zero, List.set_cons_succ, i64_w, i32_w]
                           rfl
                          refine pure_ (i := 1) (N := some 69) (v := ?_) (a' := ?_) #[true, true, false, false, false, false, false, false, false, false, false, false, false, false, false, false] rfl rfl (any_of HT_.out (by kernel_rfl)) (fun _ _ _ h => h) (Or.inl ⟨by rfl, ?_⟩) ?_ ?_
                          rotate_left
                          ·intro w'
                           go_simp
                           with_reducible rfl
                          rotate_left
                          ·simp only [Act.put, List.setIfInBounds_toArray, List.set_cons_zero, List.set_cons_succ, i64_w, i32_w]
                           rfl
                          refine pure_ (i := 3) (N := some 71) (v := ?_) (a' := ?_) #[true, true, false, true, false, false, false, false, false, false, false, false, false, false, false, false] rfl rfl (any_of HT_.out (by kernel_rfl)) (fun _ _ _ h => h) (Or.inl ⟨by rfl, ?_⟩) ?_ ?_
                          rotate_left
                          ·intro w'
                           go_simp
                           with_reducible rfl
                          rotate_left
                          ·simp only [Act.put, List.setIfInBounds_toArray, List.set_cons_zero, List.set_cons_succ, i64_w, i32_w]
                           rfl
                          refine pure_ (i := 4) (N := some 72) (v := ?_) (a' := ?_) #[true, true, false, true, true, false, false, false, false, false, false, false, false, false, false, false] rfl rfl (any_of HT_.out (by kernel_rfl)) (fun _ _ _ h => h) (Or.inl ⟨by rfl, ?_⟩) ?_ ?_
                          rotate_left
                          ·intro w'
                           go_simp
                           with_reducible rfl
                          rotate_left
                          ·simp only [Act.put, List.setIfInBounds_toArray, List.set_cons_zero, List.set_cons_succ, i64_w, i32_w]
                           rfl
                          refine pure_ (i := 8) (N := some 76) (v := ?_) (a' := ?_) #[true, true, false, true, true, false, false, false, true, false, false, false, false, false, false, false] rfl rfl (any_of HT_.out (by kernel_rfl)) (fun _ _ _ h => h) (Or.inl ⟨by rfl, ?_⟩) ?_ ?_
                          rotate_left
                          ·intro w'
                           go_simp
                           with_reducible rfl
                          rotate_left
                          ·simp only [Act.put, List.setIfInBounds_toArray, List.set_cons_zero, List.set_cons_succ, i64_w, i32_w]
                           rfl
                          refine pure_ (i := 9) (N := some 77) (v := ?_) (a' := ?_) #[true, true, false, true, true, false, false, false, true, true, false, false, false, false, false, false] rfl rfl (any_of HT_.out (by kernel_rfl)) (fun _ _ _ h => h) (Or.inl ⟨by rfl, ?_⟩) ?_ ?_
                          rotate_left
                          ·intro w'
                           go_simp
                           with_reducible rfl
                          rotate_left
                          ·simp only [Act.put, List.setIfInBounds_toArray, List.set_cons_zero, List.set_cons_succ, i64_w, i32_w]
                           rfl
                          refine take_ (i := 2) (N := some 70) (v := ?_) (a' := ?_) #[true, true, true, true, true, false, false, false, true, true, false, false, false, false, false, false] rfl rfl (take_ofW HT_.out HW_.out (by kernel_rfl)) (fun _ _ _ h => h) (Or.inl ⟨by rfl, ?_⟩) hHeld ?_ ?_
                          rotate_left
                          ·rintro w' ⟨s0, s1, s2, s3, s4, s5⟩
                           go_simp
                           with_reducible rfl
                          rotate_left
                          ·simp only [Act.put, List.setIfInBounds_toArray, List.set_cons_zero, List.set_cons_succ, i64_w, i32_w]
                           rfl
                          refine take_ (i := 5) (N := some 73) (v := ?_) (a' := ?_) #[true, true, true, true, true, true, false, false, true, true, false, false, false, false, false, false] rfl rfl (take_ofW HT_.out HW_.out (by kernel_rfl)) (fun _ _ _ h => h) (Or.inl ⟨by rfl, ?_⟩) hHeld ?_ ?_
                          rotate_left
                          ·rintro w' ⟨s0, s1, s2, s3, s4, s5⟩
                           go_simp
                           with_reducible rfl
                          rotate_left
                          ·simp only [Act.put, List.setIfInBounds_toArray, List.set_cons_zero, List.set_cons_succ, i64_w, i32_w]
                           rfl
                          refine pure_ (i := 6) (N := some 74) (v := ?_) (a' := ?_) #[true, true, true, true, true, true, true, false, true, true, false, false, false, false, false, false] rfl rfl (any_of HT_.out (by kernel_rfl)) (fun _ _ _ h => h) (Or.inl ⟨by rfl, ?_⟩) ?_ ?_
                          rotate_left
                          ·intro w'
                           go_simp
                           with_reducible rfl
                          rotate_left
                          ·simp only [Act.put, List.setIfInBounds_toArray, List.set_cons_zero, List.set_cons_succ, i64_w, i32_w]
                           rfl
                          refine take_ (i := 7) (N := some 75) (v := ?_) (a' := ?_) #[true, true, true, true, true, true, true, true, true, true, false, false, false, false, false, false] rfl rfl (take_ofW HT_.out HW_.out (by kernel_rfl)) (fun _ _ _ h => h) (Or.inl ⟨by rfl, ?_⟩) hHeld ?_ ?_
                          rotate_left
                          ·rintro w' ⟨s0, s1, s2, s3, s4, s5⟩
                           go_simp
                           with_reducible rfl
                          rotate_left
                          ·simp only [Act.put, List.setIfInBounds_toArray, List.set_cons_zero, List.set_cons_succ, i64_w, i32_w]
                           rfl
                          refine take_ (i := 10) (N := some 78) (v := ?_) (a' := ?_) #[true, true, true, true, true, true, true, true, true, true, true, false, false, false, false, false] rfl rfl (take_ofW HT_.out HW_.out (by kernel_rfl)) (fun _ _ _ h => h) (Or.inl ⟨by rfl, ?_⟩) hHeld ?_ ?_
                          rotate_left
                          ·rintro w' ⟨s0, s1, s2, s3, s4, s5⟩
                           go_simp
                           with_reducible rfl
                          rotate_left
                          ·simp only [Act.put, List.setIfInBounds_toArray, List.set_cons_zero, List.set_cons_succ, i64_w, i32_w]
                           rfl
                          refine pure_ (i := 11) (N := some 79) (v := ?_) (a' := ?_) #[true, true, true, true, true, true, true, true, true, true, true, true, false, false, false, false] rfl rfl (any_of HT_.out (by kernel_rfl)) (fun _ _ _ h => h) (Or.inl ⟨by rfl, ?_⟩) ?_ ?_
                          rotate_left
                          ·intro w'
                           go_simp
                           with_reducible rfl
                          rotate_left
                          ·simp only [Act.put, List.setIfInBounds_toArray, List.set_cons_zero, List.set_cons_succ, i64_w, i32_w]
                           rfl
                          refine take_ (i := 12) (N := some 80) (v := ?_) (a' := ?_) #[true, true, true, true, true, true, true, true, true, true, true, true, true, false, false, false] rfl rfl (take_ofW HT_.out HW_.out (by kernel_rfl)) (fun _ _ _ h => h) (Or.inl ⟨by rfl, ?_⟩) hHeld ?_ ?_
                          rotate_left
                          ·rintro w' ⟨s0, s1, s2, s3, s4, s5⟩
                           go_simp
                           with_reducible rfl
                          rotate_left
                          ·simp only [Act.put, List.setIfInBounds_toArray, List.set_cons_zero, List.set_cons_succ, i64_w, i32_w]
                           rfl
                          refine pure_ (i := 13) (N := some 81) (v := ?_) (a' := ?_) #[true, true, true, true, true, true, true, true, true, true, true, true, true, true, false, false] rfl rfl (any_of HT_.out (by kernel_rfl)) (fun _ _ _ h => h) (Or.inl ⟨by rfl, ?_⟩) ?_ ?_
                          rotate_left
                          ·intro w'
                           go_simp
                           with_reducible rfl
                          rotate_left
                          ·simp only [Act.put, List.setIfInBounds_toArray, List.set_cons_zero, List.set_cons_succ, i64_w, i32_w]
                           rfl
                          refine pure_ (i := 14) (N := some 82) (v := ?_) (a' := ?_) #[true, true, true, true, true, true, true, true, true, true, true, true, true, true, true, false] rfl rfl (any_of HT_.out (by kernel_rfl)) (fun _ _ _ h => h) (Or.inl ⟨by rfl, ?_⟩) ?_ ?_
                          rotate_left
                          ·intro w'
                           go_simp
                           with_reducible rfl
                          rotate_left
                          ·simp only [Act.put, List.setIfInBounds_toArray, List.set_cons_zero, List.set_cons_succ, i64_w, i32_w]
                           rfl
                          refine last_ (i := 15) (N := none) #[true, true, true, true, true, true, true, true, true, true, true, true, true, true, true, true] rfl rfl (one_of HT_.out (by kernel_rfl)) (by decide) (fun K hK => ?_)
                          refine skip_ (w1 := ?_) (by rfl) rfl ?_ ?_
                          rotate_left
                          ·go_simp
                           rfl
                          refine hK.out _ _ ?_
                          clear hK K
                          refine done_ (done_of HT_.out (by kernel_rfl)) ?_
                          try go_wp2
                          have n0_ : Aside0 (Kd.R (Kd.int .i64) 3 (w63.setCell ⟨go37, (((rd_T92 (rd_L5 l0 x11_3) x14_4).f0) : Int).toNat, none⟩ (.int .i64 (wrap64 ((rd x12_4 ((rd_T92 (rd_L5 l0 x11_3) x14_4).f0)) + (rd l3 ((rd_T92 (rd_L5 l0 x11_3) x14_4).f0)))))) w.heap.size (fun k_ => some k_ ≠ (v148 : Value).ownBlock) (.slice (some ⟨go37, 0, none⟩) x12_4.length co64) y156) := ⟨by (with_reducible repeat (first | apply Ω1 | apply Ω2 | apply Ω3)); exact HQ65.out⟩
                          have n1_ : Aside0 (Kd.R (Kd.int .i64) 3 (w63.setCell ⟨go37, (((rd_T92 (rd_L5 l0 x11_3) x14_4).f0) : Int).toNat, none⟩ (.int .i64 (wrap64 ((rd x12_4 ((rd_T92 (rd_L5 l0 x11_3) x14_4).f0)) + (rd l3 ((rd_T92 (rd_L5 l0 x11_3) x14_4).f0)))))) w.heap.size (fun k_ => some k_ ≠ (.slice (some ⟨go37, 0, none⟩) x12_4.length co64 : Value).ownBlock) v148 x13_4) := ⟨by (with_reducible repeat (first | apply Ω1 | apply Ω2 | apply Ω3)); exact ΩE (Ω4 (p := ⟨go37, (((rd_T92 (rd_L5 l0 x11_3) x14_4).f0) : Int).toNat, none⟩) (ΩE HO_13.out (fun k_ hk => (⟨hk, fun e_ => hk (by rw [e_]; rfl)⟩ : _ ∧ k_ ≠ go37))) (fun _ hk => hk.2) (.int .i64 (wrap64 ((rd x12_4 ((rd_T92 (rd_L5 l0 x11_3) x14_4).f0)) + (rd l3 ((rd_T92 (rd_L5 l0 x11_3) x14_4).f0)))))) (fun _ hk => hk.1)⟩
                          have n2_ : Aside0 ((w63.setCell ⟨go37, (((rd_T92 (rd_L5 l0 x11_3) x14_4).f0) : Int).toNat, none⟩ (.int .i64 (wrap64 ((rd x12_4 ((rd_T92 (rd_L5 l0 x11_3) x14_4).f0)) + (rd l3 ((rd_T92 (rd_L5 l0 x11_3) x14_4).f0)))))).heap[gb153]? = some (.cells #[.int .i64 ((rd_T92 (rd_L5 l0 x11_3) x14_4).f0), .int .i64 ((rd_T92 (rd_L5 l0 x11_3) x14_4).f1), .int .i64 ((rd_T92 (rd_L5 l0 x11_3) x14_4).f2), .bool ((rd_T92 (rd_L5 l0 x11_3) x14_4).f3)] 92 (0, 0))) := ⟨by (with_reducible repeat (first | refine ΩA ?_ _ | refine ΩC ?_ | refine ΩB ?_ _)); refine blk_far ?_ (by have h_ := Kd.R_ne HO_12.out BK153.out (by decide); intro e_; exact h_ (by rw [e_]; rfl)) _; (with_reducible repeat (first | refine ΩA ?_ _ | refine ΩC ?_ | refine ΩB ?_ _)); exact BK153.out⟩
                          have n3_ : Aside0 (Below w.heap.size w (w63.setCell ⟨go37, (((rd_T92 (rd_L5 l0 x11_3) x14_4).f0) : Int).toNat, none⟩ (.int .i64 (wrap64 ((rd x12_4 ((rd_T92 (rd_L5 l0 x11_3) x14_4).f0)) + (rd l3 ((rd_T92 (rd_L5 l0 x11_3) x14_4).f0))))))) := ⟨HBu HB.out⟩
                          (try clear HO_12)
                          (try clear HO_13)
                          (try clear BK153)
                          (try clear HB)
                          generalize (w63.setCell ⟨go37, (((rd_T92 (rd_L5 l0 x11_3) x14_4).f0) : Int).toNat, none⟩ (.int .i64 (wrap64 ((rd x12_4 ((rd_T92 (rd_L5 l0 x11_3) x14_4).f0)) + (rd l3 ((rd_T92 (rd_L5 l0 x11_3) x14_4).f0)))))) = w66 at n0_ n1_ n2_ n3_ ⊢
                          have HO_12 := n0_
                          have HO_13 := n1_
                          have BK153 := n2_
                          have HB := n3_
                          clear n0_ n1_ n2_ n3_
                          replace HO_12 := Ω5 (Ω3 HO_12.out)
                          replace HO_13 := Ω5 (Ω3 HO_13.out)
                          replace BK153 := Ω5 (ΩC BK153.out)
                          replace HB := Ω5 (Ω8 HB.out)
                          have p157 : 0 ≤ (((rd_T92 (rd_L5 l0 x11_3) x14_4).f0) : Int) := of_decide_eq_true (by first | (with_reducible assumption) | assumption)
                          have q157 : ((rd_T92 (rd_L5 l0 x11_3) x14_4).f0) < (y156.length : Int) := (by have h_ : (((rd_T92 (rd_L5 l0 x11_3) x14_4).f0) : Int) < ((x12_4.length : Int) : Int) := of_decide_eq_true (by first | (with_reducible assumption) | assumption); first | (have e_ := (Kd.R_reads' HO_12.out).1; omega) | simpa only [Ny156.out, List.length_set] using h_)
                          have ql157 : ((((rd_T92 (rd_L5 l0 x11_3) x14_4).f0) : Int) < ((x12_4.length : Int) : Int)) = True := eq_true (of_decide_eq_true (by first | (with_reducible assumption) | assumption))
                          obtain ⟨ad157, e157, hx157_0⟩ := Kd.at_int (Kd.R_reads' HO_12.out).2.2 ((rd_T92 (rd_L5 l0 x11_3) x14_4).f0) p157 q157
                          obtain rfl : (⟨go37, 0, none⟩ : Addr) = ad157 := (by injection e157)
                          (first | simp only [add_plain] at hx157_0 | simp only [add_at] at hx157_0 | simp only [Addr.add, Nat.zero_add] at hx157_0 | skip)
                          replace p157 := eq_true p157
                          replace q157 := eq_true q157
                          obtain ⟨Ao68, co68, eo68⟩ := Kd.R_slice HO_13.out
                          (first | subst eo68 | (injection eo68 with f1_ f2_ f3_; have f4_ := f1_.symm; have f5_ := f3_.symm; clear f1_ f2_ f3_; subst f4_; subst f5_))
                          have p158 : 0 ≤ (((rd_T92 (rd_L5 l0 x11_3) x14_4).f0) : Int) := of_decide_eq_true (by first | (with_reducible assumption) | assumption)
                          have q158 : ((rd_T92 (rd_L5 l0 x11_3) x14_4).f0) < (x13_4.length : Int) := of_decide_eq_true (by first | (with_reducible assumption) | assumption)
                          obtain ⟨ad158, e158, hx158_0⟩ := Kd.at_int (Kd.R_reads' HO_13.out).2.2 ((rd_T92 (rd_L5 l0 x11_3) x14_4).f0) p158 q158
                          cases e158
                          replace p158 := eq_true p158
                          replace q158 := eq_true q158
                          refine start_ (n := 11) (S := fun w' => w'.cell? ⟨gb153, 0, none⟩ = some (.int .i64 ((rd_T92 (rd_L5 l0 x11_3) x14_4).f0)) ∧ w'.cell? ⟨gb153, 1, none⟩ = some (.int .i64 ((rd_T92 (rd_L5 l0 x11_3) x14_4).f1)) ∧ w'.cell? ⟨gb153, 2, none⟩ = some (.int .i64 ((rd_T92 (rd_L5 l0 x11_3) x14_4).f2)) ∧ w'.cell? ⟨gb153, 3, none⟩ = some (.bool ((rd_T92 (rd_L5 l0 x11_3) x14_4).f3)) ∧ w'.cell? ⟨go37, (((rd_T92 (rd_L5 l0 x11_3) x14_4).f0)).toNat, none⟩ = some (.int .i64 (rd y156 ((rd_T92 (rd_L5 l0 x11_3) x14_4).f0))) ∧ w'.cell? (ad158.add (((rd_T92 (rd_L5 l0 x11_3) x14_4).f0)).toNat) = some (.int .i64 (rd x13_4 ((rd_T92 (rd_L5 l0 x11_3) x14_4).f0)))) (ds := []) #[false, false, false, false, false, false, false, false, false, false, false] (by kernel_rfl) rfl rfl ⟨(ΩJ BK153.out 0).trans rfl, (ΩJ BK153.out 1).trans rfl, (ΩJ BK153.out 2).trans rfl, (ΩJ BK153.out 3).trans rfl, hx157_0, hx158_0⟩ (fun hHeld => ?_); refine with_tabW spec_Finish.tab19 spec_Finish.bits19 (fun HT_ HW_ => ?_)
                          generalize w66.drew = w67 at HO_12 HO_13 BK153 HB HQ65 hx157_0 hx158_0 hHeld ⊢
                          refine pure_ (i := 0) (N := some 83) (v := ?_) (a' := ?_) #[true, false, false, false, false, false, false, false, false, false, false] rfl rfl (any_of HT_.out (by kernel_rfl)) (fun _ _ _ h => h) (Or.inl ⟨by rfl, ?_⟩) ?_ ?_
                          rotate_left
                          ·intro w'
                           go_simp
                           with_reducible rfl
                          rotate_left
                          ·simp only [Act.put, List.setIfInBounds_toArray, List.set_cons_zero, List.set_cons_succ, i64_w, i32_w]
                           rfl
                          refine pure_ (i := 1) (N := some 84) (v := ?_) (a' := ?_) #[true, true, false, false, false, false, false, false, false, false, false] rfl rfl (any_of HT_.out (by kernel_rfl)) (fun _ _ _ h => h) (Or.inl ⟨by rfl, ?_⟩) ?_ ?_
                          rotate_left
                          ·intro w'
                           go_simp
                           with_reducible rfl
                          rotate_left
                          ·simp only [Act.put, List.setIfInBounds_toArray, List.set_cons_zero, List.set_cons_succ, i64_w, i32_w]
                           rfl
                          refine pure_ (i := 5) (N := some 88) (v := ?_) (a' := ?_) #[true, true, false, false, false, true, false, false, false, false, false] rfl rfl (any_of HT_.out (by kernel_rfl)) (fun _ _ _ h => h) (Or.inl ⟨by rfl, ?_⟩) ?_ ?_
                          rotate_left
                          ·intro w'
                           go_simp
                           with_reducible rfl
                          rotate_left
                          ·simp only [Act.put, List.setIfInBounds_toArray, List.set_cons_zero, List.set_cons_succ, i64_w, i32_w]
                           rfl
                          refine pure_ (i := 6) (N := some 89) (v := ?_) (a' := ?_) #[true, true, false, false, false, true, true, false, false, false, false] rfl rfl (any_of HT_.out (by kernel_rfl)) (fun _ _ _ h => h) (Or.inl ⟨by rfl, ?_⟩) ?_ ?_
                          rotate_left
                          ·intro w'
                           go_simp
                           with_reducible rfl
                          rotate_left
                          ·simp only [Act.put, List.setIfInBounds_toArray, List.set_cons_zero, List.set_cons_succ, i64_w, i32_w]
                           rfl
                          refine take_ (i := 2) (N := some 85) (v := ?_) (a' := ?_) #[true, true, true, false, false, true, true, false, false, false, false] rfl rfl (take_ofW HT_.out HW_.out (by kernel_rfl)) (fun _ _ _ h => h) (Or.inl ⟨by rfl, ?_⟩) hHeld ?_ ?_
                          rotate_left
                          ·rintro w' ⟨s0, s1, s2, s3, s4, s5⟩
                           go_simp
                           with_reducible rfl
                          rotate_left
                          ·simp only [Act.put, List.setIfInBounds_toArray, List.set_cons_zero, List.set_cons_succ, i64_w, i32_w]
                           rfl
                          refine pure_ (i := 3) (N := some 86) (v := ?_) (a' := ?_) #[true, true, true, true, false, true, true, false, false, false, false] rfl rfl (any_of HT_.out (by kernel_rfl)) (fun _ _ _ h => h) (Or.inl ⟨by rfl, ?_⟩) ?_ ?_
                          rotate_left
                          ·intro w'
                           go_simp
                           with_reducible rfl
                          rotate_left
                          ·simp only [Act.put, List.setIfInBounds_toArray, List.set_cons_zero, List.set_cons_succ, i64_w, i32_w]
                           rfl
                          refine take_ (i := 4) (N := some 87) (v := ?_) (a' := ?_) #[true, true, true, true, true, true, true, false, false, false, false] rfl rfl (take_ofW HT_.out HW_.out (by kernel_rfl)) (fun _ _ _ h => h) (Or.inl ⟨by rfl, ?_⟩) hHeld ?_ ?_
                          rotate_left
                          ·rintro w' ⟨s0, s1, s2, s3, s4, s5⟩
                           go_simp
                           with_reducible rfl
                          rotate_left
                          ·simp only [Act.put, List.setIfInBounds_toArray, List.set_cons_zero, List.set_cons_succ, i64_w, i32_w]
                           rfl
                          refine take_ (i := 7) (N := some 90) (v := ?_) (a' := ?_) #[true, true, true, true, true, true, true, true, false, false, false] rfl rfl (take_ofW HT_.out HW_.out (by kernel_rfl)) (fun _ _ _ h => h) (Or.inl ⟨by rfl, ?_⟩) hHeld ?_ ?_
                          rotate_left
                          ·rintro w' ⟨s0, s1, s2, s3, s4, s5⟩
                           go_simp
                           with_reducible rfl
                          rotate_left
                          ·simp only [Act.put, List.setIfInBounds_toArray, List.set_cons_zero, List.set_cons_succ, i64_w, i32_w]
                           rfl
                          refine pure_ (i := 8) (N := some 91) (v := ?_) (a' := ?_) #[true, true, true, true, true, true, true, true, true, false, false] rfl rfl (any_of HT_.out (by kernel_rfl)) (fun _ _ _ h => h) (Or.inl ⟨by rfl, ?_⟩) ?_ ?_
                          rotate_left
                          ·intro w'
                           go_simp
                           with_reducible rfl
                          rotate_left
                          ·simp only [Act.put, List.setIfInBounds_toArray, List.set_cons_zero, List.set_cons_succ, i64_w, i32_w]
                           rfl
                          refine take_ (i := 9) (N := some 92) (v := ?_) (a' := ?_) #[true, true, true, true, true, true, true, true, true, true, false] rfl rfl (take_ofW HT_.out HW_.out (by kernel_rfl)) (fun _ _ _ h => h) (Or.inl ⟨by rfl, ?_⟩) hHeld ?_ ?_
                          rotate_left
                          ·rintro w' ⟨s0, s1, s2, s3, s4, s5⟩
                           go_simp
                           with_reducible rfl
                          rotate_left
                          ·simp only [Act.put, List.setIfInBounds_toArray, List.set_cons_zero, List.set_cons_succ, i64_w, i32_w]
                           rfl
                          refine pure_ (i := 10) (N := some 93) (v := ?_) (a' := ?_) #[true, true, true, true, true, true, true, true, true, true, true] rfl rfl (any_of HT_.out (by kernel_rfl)) (fun _ _ _ h => h) (Or.inl ⟨by rfl, ?_⟩) ?_ ?_
                          rotate_left
                          ·intro w'
                           go_simp
                           with_reducible rfl
                          rotate_left
                          ·simp only [Act.put, List.setIfInBounds_toArray, List.set_cons_zero, List.set_cons_succ, i64_w, i32_w]
                           rfl
                          refine done_ (done_of HT_.out (by kernel_rfl)) ?_
                          try go_wp2
                          replace HO_12 := Ω5 (Ω3 HO_12.out)
                          replace HO_13 := Ω5 (Ω3 HO_13.out)
                          replace BK153 := Ω5 (ΩC BK153.out)
                          replace HB := Ω5 (Ω8 HB.out)
                          have p159 : 0 ≤ (((rd_T92 (rd_L5 l0 x11_3) x14_4).f0) : Int) := of_decide_eq_true (by first | (with_reducible assumption) | assumption)
                          have q159 : ((rd_T92 (rd_L5 l0 x11_3) x14_4).f0) < (y156.length : Int) := (by have h_ : (((rd_T92 (rd_L5 l0 x11_3) x14_4).f0) : Int) < ((x12_4.length : Int) : Int) := of_decide_eq_true (by first | (with_reducible assumption) | assumption); first | (have e_ := (Kd.R_reads' HO_12.out).1; omega) | simpa only [Ny156.out, List.length_set] using h_)
                          have ql159 : ((((rd_T92 (rd_L5 l0 x11_3) x14_4).f0) : Int) < ((x12_4.length : Int) : Int)) = True := eq_true (of_decide_eq_true (by first | (with_reducible assumption) | assumption))
                          obtain ⟨ad159, e159, hx159_0⟩ := Kd.at_int (Kd.R_reads' HO_12.out).2.2 ((rd_T92 (rd_L5 l0 x11_3) x14_4).f0) p159 q159
                          obtain rfl : (⟨go37, 0, none⟩ : Addr) = ad159 := (by injection e159)
                          (first | simp only [add_plain] at hx159_0 | simp only [add_at] at hx159_0 | simp only [Addr.add, Nat.zero_add] at hx159_0 | skip)
                          replace p159 := eq_true p159
                          replace q159 := eq_true q159
                          have p40 : 0 ≤ (((rd_T92 (rd_L5 l0 x11_3) x14_4).f0) : Int) := of_decide_eq_true (by first | (with_reducible assumption) | assumption)
                          have q40 : (((rd_T92 (rd_L5 l0 x11_3) x14_4).f0) : Int) < ((x13_4.length : Int) : Int) := of_decide_eq_true (by first | (with_reducible assumption) | assumption)
                          obtain ⟨go40, co40, eo40, gb40, gl40, cl40, HG40⟩ := Kd.R_form HO_13.out (by omega)
                          (first | cases eo40 | (injection eo40 with ea_ en_ ec_; (first | subst ea_ | (injection ea_ with ea_; subst ea_)); subst ec_; clear en_))
                          have GB40 := Ω5 gb40
                          have GG40 := Ω5 HG40
                          clear gb40 gl40 HG40
                          (first | simp only [add_plain] at hx158_0 | skip)
                          obtain ⟨hx40_0, hf40_0⟩ := Kd.R_celln 0 HO_13.out (((rd_T92 (rd_L5 l0 x11_3) x14_4).f0) : Int) p40 q40
                          replace p40 := eq_true p40
                          replace q40 := eq_true q40
                          have HP70 := Kd.R_putn HO_13.out (((rd_T92 (rd_L5 l0 x11_3) x14_4).f0) : Int) (rd y156 ((rd_T92 (rd_L5 l0 x11_3) x14_4).f0))
                          rw [← Ny160.out] at HP70
                          have HQ70 := Ω5 HP70
                          clear HP70
                          refine start_ (n := 10) (S := fun w' => w'.cell? ⟨gb153, 0, none⟩ = some (.int .i64 ((rd_T92 (rd_L5 l0 x11_3) x14_4).f0)) ∧ w'.cell? ⟨gb153, 1, none⟩ = some (.int .i64 ((rd_T92 (rd_L5 l0 x11_3) x14_4).f1)) ∧ w'.cell? ⟨gb153, 2, none⟩ = some (.int .i64 ((rd_T92 (rd_L5 l0 x11_3) x14_4).f2)) ∧ w'.cell? ⟨gb153, 3, none⟩ = some (.bool ((rd_T92 (rd_L5 l0 x11_3) x14_4).f3)) ∧ w'.cell? ⟨go37, (((rd_T92 (rd_L5 l0 x11_3) x14_4).f0)).toNat, none⟩ = some (.int .i64 (rd y156 ((rd_T92 (rd_L5 l0 x11_3) x14_4).f0)))) (ds := [9]) #[false, false, false, false, false, false, false, false, false, false] (by kernel_rfl) rfl rfl ⟨(ΩJ BK153.out 0).trans rfl, (ΩJ BK153.out 1).trans rfl, (ΩJ BK153.out 2).trans rfl, (ΩJ BK153.out 3).trans rfl, hx159_0⟩ (fun hHeld => ?_); refine with_tabW spec_Finish.tab20 spec_Finish.bits20 (fun HT_ HW_ => ?_)
                          generalize w67.drew = w69 at HO_12 HO_13 BK153 HB GG40 HQ70 hf40_0 hx158_0 hx159_0 hx40_0 hHeld ⊢
                          refine pure_ (i := 0) (N := some 94) (v := ?_) (a' := ?_) #[true, false, false, false, false, false, false, false, false, false] rfl rfl (any_of HT_.out (by kernel_rfl)) (fun _ _ _ h => h) (Or.inl ⟨by rfl, ?_⟩) ?_ ?_
                          rotate_left
                          ·intro w'
                           go_simp
                           with_reducible rfl
                          rotate_left
                          ·simp only [Act.put, List.setIfInBounds_toArray, List.set_cons_zero, List.set_cons_succ, i64_w, i32_w]
                           rfl
                          refine pure_ (i := 1) (N := some 95) (v := ?_) (a' := ?_) #[true, true, false, false, false, false, false, false, false, false] rfl rfl (any_of HT_.out (by kernel_rfl)) (fun _ _ _ h => h) (Or.inl ⟨by rfl, ?_⟩) ?_ ?_
                          rotate_left
                          ·intro w'
                           go_simp
                           with_reducible rfl
                          rotate_left
                          ·simp only [Act.put, List.setIfInBounds_toArray, List.set_cons_zero, List.set_cons_succ, i64_w, i32_w]
                           rfl
                          refine pure_ (i := 3) (N := some 97) (v := ?_) (a' := ?_) #[true, true, false, true, false, false, false, false, false, false] rfl rfl (any_of HT_.out (by kernel_rfl)) (fun _ _ _ h => h) (Or.inl ⟨by rfl, ?_⟩) ?_ ?_
                          rotate_left
                          ·intro w'
                           go_simp
                           with_reducible rfl
                          rotate_left
                          ·simp only [Act.put, List.setIfInBounds_toArray, List.set_cons_zero, List.set_cons_succ, i64_w, i32_w]
                           rfl
                          refine pure_ (i := 4) (N := some 98) (v := ?_) (a' := ?_) #[true, true, false, true, true, false, false, false, false, false] rfl rfl (any_of HT_.out (by kernel_rfl)) (fun _ _ _ h => h) (Or.inl ⟨by rfl, ?_⟩) ?_ ?_
                          rotate_left
                          ·intro w'
                           go_simp
                           with_reducible rfl
                          rotate_left
                          ·simp only [Act.put, List.setIfInBounds_toArray, List.set_cons_zero, List.set_cons_succ, i64_w, i32_w]
                           rfl
                          refine take_ (i := 2) (N := some 96) (v := ?_) (a' := ?_) #[true, true, true, true, true, false, false, false, false, false] rfl rfl (take_ofW HT_.out HW_.out (by kernel_rfl)) (fun _ _ _ h => h) (Or.inl ⟨by rfl, ?_⟩) hHeld ?_ ?_
                          rotate_left
                          ·rintro w' ⟨s0, s1, s2, s3, s4⟩
                           go_simp
                           with_reducible rfl
                          rotate_left
                          ·simp only [Act.put, List.setIfInBounds_toArray, List.set_cons_zero, List.set_cons_succ, i64_w, i32_w]
                           rfl
                          refine take_ (i := 5) (N := some 99) (v := ?_) (a' := ?_) #[true, true, true, true, true, true, false, false, false, false] rfl rfl (take_ofW HT_.out HW_.out (by kernel_rfl)) (fun _ _ _ h => h) (Or.inl ⟨by rfl, ?_⟩) hHeld ?_ ?_
                          rotate_left
                          ·rintro w' ⟨s0, s1, s2, s3, s4⟩
                           go_simp
                           with_reducible rfl
                          rotate_left
                          ·simp only [Act.put, List.setIfInBounds_toArray, List.set_cons_zero, List.set_cons_succ, i64_w, i32_w]
                           rfl
                          refine pure_ (i := 6) (N := some 100) (v := ?_) (a' := ?_) #[true, true, true, true, true, true, true, false, false, false] rfl rfl (any_of HT_.out (by kernel_rfl)) (fun _ _ _ h => h) (Or.inl ⟨by rfl, ?_⟩) ?_ ?_
                          rotate_left
                          ·intro w'
                           go_simp
                           with_reducible rfl
                          rotate_left
                          ·simp only [Act.put, List.setIfInBounds_toArray, List.set_cons_zero, List.set_cons_succ, i64_w, i32_w]
                           rfl
                          refine take_ (i := 7) (N := some 101) (v := ?_) (a' := ?_) #[true, true, true, true, true, true, true, true, false, false] rfl rfl (take_ofW HT_.out HW_.out (by kernel_rfl)) (fun _ _ _ h => h) (Or.inl ⟨by rfl, ?_⟩) hHeld ?_ ?_
                          rotate_left
                          ·rintro w' ⟨s0, s1, s2, s3, s4⟩
                           go_simp
                           with_reducible rfl
                          rotate_left
                          ·simp only [Act.put, List.setIfInBounds_toArray, List.set_cons_zero, List.set_cons_succ, i64_w, i32_w]
                           rfl
                          refine pure_ (i := 8) (N := some 102) (v := ?_) (a' := ?_) #[true, true, true, true, true, true, true, true, true, false] rfl rfl (any_of HT_.out (by kernel_rfl)) (fun _ _ _ h => h) (Or.inl ⟨by rfl, ?_⟩) ?_ ?_
                          rotate_left
                          ·intro w'
                           go_simp
                           with_reducible rfl
                          rotate_left
                          ·simp only [Act.put, List.setIfInBounds_toArray, List.set_cons_zero, List.set_cons_succ, i64_w, i32_w]
                           rfl
                          refine last_ (i := 9) (N := none) #[true, true, true, true, true, true, true, true, true, true] rfl rfl (one_of HT_.out (by kernel_rfl)) (by decide) (fun K hK => ?_)
                          refine skip_ (w1 := ?_) (by rfl) rfl ?_ ?_
                          rotate_left
                          ·go_simp
                           rfl
                          refine hK.out _ _ ?_
                          clear hK K
                          refine done_ (done_of HT_.out (by kernel_rfl)) ?_
                          try go_wp2
                          have n0_ : Aside0 (Kd.R (Kd.int .i64) 3 (w69.setCell ⟨go40, (((rd_T92 (rd_L5 l0 x11_3) x14_4).f0) : Int).toNat, none⟩ (.int .i64 (rd y156 ((rd_T92 (rd_L5 l0 x11_3) x14_4).f0)))) w.heap.size (fun k_ => some k_ ≠ (.slice (some ⟨go40, 0, none⟩) x13_4.length co68 : Value).ownBlock) (.slice (some ⟨go37, 0, none⟩) x12_4.length co64) y156) := ⟨by (with_reducible repeat (first | apply Ω1 | apply Ω2 | apply Ω3)); exact ΩE (Ω4 (p := ⟨go40, (((rd_T92 (rd_L5 l0 x11_3) x14_4).f0) : Int).toNat, none⟩) (ΩE HO_12.out (fun k_ hk => (⟨hk, fun e_ => hk (by rw [e_]; rfl)⟩ : _ ∧ k_ ≠ go40))) (fun _ hk => hk.2) (.int .i64 (rd y156 ((rd_T92 (rd_L5 l0 x11_3) x14_4).f0)))) (fun _ hk => hk.1)⟩
                          have n1_ : Aside0 (Kd.R (Kd.int .i64) 3 (w69.setCell ⟨go40, (((rd_T92 (rd_L5 l0 x11_3) x14_4).f0) : Int).toNat, none⟩ (.int .i64 (rd y156 ((rd_T92 (rd_L5 l0 x11_3) x14_4).f0)))) w.heap.size (fun k_ => some k_ ≠ (.slice (some ⟨go37, 0, none⟩) x12_4.length co64 : Value).ownBlock) (.slice (some ⟨go40, 0, none⟩) x13_4.length co68) y160) := ⟨by (with_reducible repeat (first | apply Ω1 | apply Ω2 | apply Ω3)); exact HQ70.out⟩
                          have n2_ : Aside0 ((w69.setCell ⟨go40, (((rd_T92 (rd_L5 l0 x11_3) x14_4).f0) : Int).toNat, none⟩ (.int .i64 (rd y156 ((rd_T92 (rd_L5 l0 x11_3) x14_4).f0)))).heap[gb153]? = some (.cells #[.int .i64 ((rd_T92 (rd_L5 l0 x11_3) x14_4).f0), .int .i64 ((rd_T92 (rd_L5 l0 x11_3) x14_4).f1), .int .i64 ((rd_T92 (rd_L5 l0 x11_3) x14_4).f2), .bool ((rd_T92 (rd_L5 l0 x11_3) x14_4).f3)] 92 (0, 0))) := ⟨by (with_reducible repeat (first | refine ΩA ?_ _ | refine ΩC ?_ | refine ΩB ?_ _)); refine blk_far ?_ (by have h_ := Kd.R_ne HO_13.out BK153.out (by decide); intro e_; exact h_ (by rw [e_]; rfl)) _; (with_reducible repeat (first | refine ΩA ?_ _ | refine ΩC ?_ | refine ΩB ?_ _)); exact BK153.out⟩
                          have n3_ : Aside0 (Below w.heap.size w (w69.setCell ⟨go40, (((rd_T92 (rd_L5 l0 x11_3) x14_4).f0) : Int).toNat, none⟩ (.int .i64 (rd y156 ((rd_T92 (rd_L5 l0 x11_3) x14_4).f0))))) := ⟨HBu HB.out⟩
                          (try clear HO_12)
                          (try clear HO_13)
                          (try clear BK153)
                          (try clear HB)
                          generalize (w69.setCell ⟨go40, (((rd_T92 (rd_L5 l0 x11_3) x14_4).f0) : Int).toNat, none⟩ (.int .i64 (rd y156 ((rd_T92 (rd_L5 l0 x11_3) x14_4).f0)))) = w71 at n0_ n1_ n2_ n3_ ⊢
                          have HO_12 := n0_
                          have HO_13 := n1_
                          have BK153 := n2_
                          have HB := n3_
                          clear n0_ n1_ n2_ n3_
                          replace HO_12 := Ω5 (Ω3 HO_12.out)
                          replace HO_13 := Ω5 (Ω3 HO_13.out)
                          replace BK153 := Ω5 (ΩC BK153.out)
                          replace HB := Ω5 (Ω8 HB.out)
                          have p161 : 0 ≤ (((rd_T92 (rd_L5 l0 x11_3) x14_4).f0) : Int) := of_decide_eq_true (by first | (with_reducible assumption) | assumption)
                          have q161 : ((rd_T92 (rd_L5 l0 x11_3) x14_4).f0) < (y156.length : Int) := (by have h_ : (((rd_T92 (rd_L5 l0 x11_3) x14_4).f0) : Int) < ((x12_4.length : Int) : Int) := of_decide_eq_true (by first | (with_reducible assumption) | assumption); first | (have e_ := (Kd.R_reads' HO_12.out).1; omega) | simpa only [Ny156.out, List.length_set] using h_)
                          have ql161 : ((((rd_T92 (rd_L5 l0 x11_3) x14_4).f0) : Int) < ((x12_4.length : Int) : Int)) = True := eq_true (of_decide_eq_true (by first | (with_reducible assumption) | assumption))
                          obtain ⟨ad161, e161, hx161_0⟩ := Kd.at_int (Kd.R_reads' HO_12.out).2.2 ((rd_T92 (rd_L5 l0 x11_3) x14_4).f0) p161 q161
                          obtain rfl : (⟨go37, 0, none⟩ : Addr) = ad161 := (by injection e161)
                          (first | simp only [add_plain] at hx161_0 | simp only [add_at] at hx161_0 | simp only [Addr.add, Nat.zero_add] at hx161_0 | skip)
                          replace p161 := eq_true p161
                          replace q161 := eq_true q161
                          have p162 : 0 ≤ (((rd_T92 (rd_L5 l0 x11_3) x14_4).f1) : Int) := of_decide_eq_true (by first | (with_reducible assumption) | assumption)
                          have q162 : ((rd_T92 (rd_L5 l0 x11_3) x14_4).f1) < (y160.length : Int) := (by have h_ : (((rd_T92 (rd_L5 l0 x11_3) x14_4).f1) : Int) < ((x13_4.length : Int) : Int) := of_decide_eq_true (by first | (with_reducible assumption) | assumption); first | (have e_ := (Kd.R_reads' HO_13.out).1; omega) | simpa only [Ny160.out, List.length_set] using h_)
                          have ql162 : ((((rd_T92 (rd_L5 l0 x11_3) x14_4).f1) : Int) < ((x13_4.length : Int) : Int)) = True := eq_true (of_decide_eq_true (by first | (with_reducible assumption) | assumption))
                          obtain ⟨ad162, e162, hx162_0⟩ := Kd.at_int (Kd.R_reads' HO_13.out).2.2 ((rd_T92 (rd_L5 l0 x11_3) x14_4).f1) p162 q162
                          obtain rfl : (⟨go40, 0, none⟩ : Addr) = ad162 := (by injection e162)
                          (first | simp only [add_plain] at hx162_0 | simp only [add_at] at hx162_0 | simp only [Addr.add, Nat.zero_add] at hx162_0 | skip)
                          replace p162 := eq_true p162
                          replace q162 := eq_true q162
                          refine start_ (n := 11) (S := fun w' => w'.cell? ⟨gb153, 0, none⟩ = some (.int .i64 ((rd_T92 (rd_L5 l0 x11_3) x14_4).f0)) ∧ w'.cell? ⟨gb153, 1, none⟩ = some (.int .i64 ((rd_T92 (rd_L5 l0 x11_3) x14_4).f1)) ∧ w'.cell? ⟨gb153, 2, none⟩ = some (.int .i64 ((rd_T92 (rd_L5 l0 x11_3) x14_4).f2)) ∧ w'.cell? ⟨gb153, 3, none⟩ = some (.bool ((rd_T92 (rd_L5 l0 x11_3) x14_4).f3)) ∧ w'.cell? ⟨go37, (((rd_T92 (rd_L5 l0 x11_3) x14_4).f0)).toNat, none⟩ = some (.int .i64 (rd y156 ((rd_T92 (rd_L5 l0 x11_3) x14_4).f0))) ∧ w'.cell? ⟨go40, (((rd_T92 (rd_L5 l0 x11_3) x14_4).f1)).toNat, none⟩ = some (.int .i64 (rd y160 ((rd_T92 (rd_L5 l0 x11_3) x14_4).f1)))) (ds := []) #[false, false, false, false, false, false, false, false, false, false, false] (by kernel_rfl) rfl rfl ⟨(ΩJ BK153.out 0).trans rfl, (ΩJ BK153.out 1).trans rfl, (ΩJ BK153.out 2).trans rfl, (ΩJ BK153.out 3).trans rfl, hx161_0, hx162_0⟩ (fun hHeld => ?_); refine with_tabW spec_Finish.tab21 spec_Finish.bits21 (fun HT_ HW_ => ?_)
                          generalize w71.drew = w72 at HO_12 HO_13 BK153 HB HQ70 hx161_0 hx162_0 hHeld ⊢
                          refine pure_ (i := 0) (N := some 103) (v := ?_) (a' := ?_) #[true, false, false, false, false, false, false, false, false, false, false] rfl rfl (any_of HT_.out (by kernel_rfl)) (fun _ _ _ h => h) (Or.inl ⟨by rfl, ?_⟩) ?_ ?_
                          rotate_left
                          ·intro w'
                           go_simp
                           with_reducible rfl
                          rotate_left
                          ·simp only [Act.put, List.setIfInBounds_toArray, List.set_cons_zero, List.set_cons_succ, i64_w, i32_w]
                           rfl
                          refine pure_ (i := 1) (N := some 104) (v := ?_) (a' := ?_) #[true, true, false, false, false, false, false, false, false, false, false] rfl rfl (any_of HT_.out (by kernel_rfl)) (fun _ _ _ h => h) (Or.inl ⟨by rfl, ?_⟩) ?_ ?_
                          rotate_left
                          ·intro w'
                           go_simp
                           with_reducible rfl
                          rotate_left
                          ·simp only [Act.put, List.setIfInBounds_toArray, List.set_cons_zero, List.set_cons_succ, i64_w, i32_w]
                           rfl
                          refine pure_ (i := 5) (N := some 108) (v := ?_) (a' := ?_) #[true, true, false, false, false, true, false, false, false, false, false] rfl rfl (any_of HT_.out (by kernel_rfl)) (fun _ _ _ h => h) (Or.inl ⟨by rfl, ?_⟩) ?_ ?_
                          rotate_left
                          ·intro w'
                           go_simp
                           with_reducible rfl
                          rotate_left
                          ·simp only [Act.put, List.setIfInBounds_toArray, List.set_cons_zero, List.set_cons_succ, i64_w, i32_w]
                           rfl
                          refine pure_ (i := 6) (N := some 109) (v := ?_) (a' := ?_) #[true, true, false, false, false, true, true, false, false, false, false] rfl rfl (any_of HT_.out (by kernel_rfl)) (fun _ _ _ h => h) (Or.inl ⟨by rfl, ?_⟩) ?_ ?_
                          rotate_left
                          ·intro w'
                           go_simp
                           with_reducible rfl
                          rotate_left
                          ·simp only [Act.put, List.setIfInBounds_toArray, List.set_cons_zero, List.set_cons_succ, i64_w, i32_w]
                           rfl
                          refine take_ (i := 2) (N := some 105) (v := ?_) (a' := ?_) #[true, true, true, false, false, true, true, false, false, false, false] rfl rfl (take_ofW HT_.out HW_.out (by kernel_rfl)) (fun _ _ _ h => h) (Or.inl ⟨by rfl, ?_⟩) hHeld ?_ ?_
                          rotate_left
                          ·rintro w' ⟨s0, s1, s2, s3, s4, s5⟩
                           go_simp
                           with_reducible rfl
                          rotate_left
                          ·simp only [Act.put, List.setIfInBounds_toArray, List.set_cons_zero, List.set_cons_succ, i64_w, i32_w]
                           rfl
                          refine pure_ (i := 3) (N := some 106) (v := ?_) (a' := ?_) #[true, true, true, true, false, true, true, false, false, false, false] rfl rfl (any_of HT_.out (by kernel_rfl)) (fun _ _ _ h => h) (Or.inl ⟨by rfl, ?_⟩) ?_ ?_
                          rotate_left
                          ·intro w'
                           go_simp
                           with_reducible rfl
                          rotate_left
                          ·simp only [Act.put, List.setIfInBounds_toArray, List.set_cons_zero, List.set_cons_succ, i64_w, i32_w]
                           rfl
                          refine take_ (i := 4) (N := some 107) (v := ?_) (a' := ?_) #[true, true, true, true, true, true, true, false, false, false, false] rfl rfl (take_ofW HT_.out HW_.out (by kernel_rfl)) (fun _ _ _ h => h) (Or.inl ⟨by rfl, ?_⟩) hHeld ?_ ?_
                          rotate_left
                          ·rintro w' ⟨s0, s1, s2, s3, s4, s5⟩
                           go_simp
                           with_reducible rfl
                          rotate_left
                          ·simp only [Act.put, List.setIfInBounds_toArray, List.set_cons_zero, List.set_cons_succ, i64_w, i32_w]
                           rfl
                          refine take_ (i := 7) (N := some 110) (v := ?_) (a' := ?_) #[true, true, true, true, true, true, true, true, false, false, false] rfl rfl (take_ofW HT_.out HW_.out (by kernel_rfl)) (fun _ _ _ h => h) (Or.inl ⟨by rfl, ?_⟩) hHeld ?_ ?_
                          rotate_left
                          ·rintro w' ⟨s0, s1, s2, s3, s4, s5⟩
                           go_simp
                           with_reducible rfl
                          rotate_left
                          ·simp only [Act.put, List.setIfInBounds_toArray, List.set_cons_zero, List.set_cons_succ, i64_w, i32_w]
                           rfl
                          refine pure_ (i := 8) (N := some 111) (v := ?_) (a' := ?_) #[true, true, true, true, true, true, true, true, true, false, false] rfl rfl (any_of HT_.out (by kernel_rfl)) (fun _ _ _ h => h) (Or.inl ⟨by rfl, ?_⟩) ?_ ?_
                          rotate_left
                          ·intro w'
                           go_simp
                           with_reducible rfl
                          rotate_left
                          ·simp only [Act.put, List.setIfInBounds_toArray, List.set_cons_zero, List.set_cons_succ, i64_w, i32_w]
                           rfl
                          refine take_ (i := 9) (N := some 112) (v := ?_) (a' := ?_) #[true, true, true, true, true, true, true, true, true, true, false] rfl rfl (take_ofW HT_.out HW_.out (by kernel_rfl)) (fun _ _ _ h => h) (Or.inl ⟨by rfl, ?_⟩) hHeld ?_ ?_
                          rotate_left
                          ·rintro w' ⟨s0, s1, s2, s3, s4, s5⟩
                           go_simp
                           with_reducible rfl
                          rotate_left
                          ·simp only [Act.put, List.setIfInBounds_toArray, List.set_cons_zero, List.set_cons_succ, i64_w, i32_w]
                           rfl
                          refine pure_ (i := 10) (N := some 113) (v := ?_) (a' := ?_) #[true, true, true, true, true, true, true, true, true, true, true] rfl rfl (any_of HT_.out (by kernel_rfl)) (fun _ _ _ h => h) (Or.inl ⟨by rfl, ?_⟩) ?_ ?_
                          rotate_left
                          ·intro w'
                           go_simp
                           with_reducible rfl
                          rotate_left
                          ·simp only [Act.put, List.setIfInBounds_toArray, List.set_cons_zero, List.set_cons_succ, i64_w, i32_w]
                           rfl
                          refine done_ (done_of HT_.out (by kernel_rfl)) ?_
                          try go_wp2
                          go_roundg k4
                          case measure => have := HJ4.out; have := HK2.out; have := HK3.out; have := HK4.out; omega
                          case rel => exact ⟨(y156), (y160), (wrap64 (x14_4 + 1)), (by first | rfl | (simp; done) | (simp [*]; done)), H', ⟨by have := HJ4.out; have := HK2.out; have := HK3.out; have := HK4.out; omega⟩, ⟨by (with_reducible repeat (first | apply Ω1 | apply Ω2 | apply Ω3)); exact HO_12.out⟩, ⟨by (with_reducible repeat (first | apply Ω1 | apply Ω2 | apply Ω3)); exact HO_13.out⟩, ⟨HBu HB.out⟩⟩
                        ·rw [if_neg c42] at H
                         exact absurd H (by simp)
                       ·rw [if_neg c41] at H
                        exact absurd H (by simp)
                      ·rw [if_neg c39] at H
                       have c39b0 : decide ((rd x13_4 ((rd_T92 (rd_L5 l0 x11_3) x14_4).f0)) < (rd y156 ((rd_T92 (rd_L5 l0 x11_3) x14_4).f0))) = false := decide_eq_false c39
                       clear c39
                       by_cases c73 : 0 ≤ ((rd_T92 (rd_L5 l0 x11_3) x14_4).f1)
                       ·rw [if_pos c73] at H
                        have c73b0 : decide (0 ≤ ((rd_T92 (rd_L5 l0 x11_3) x14_4).f1)) = true := decide_eq_true c73
                        clear c73
                        by_cases c74 : ((rd_T92 (rd_L5 l0 x11_3) x14_4).f1) < (x13_4.length : Int)
                        ·rw [if_pos c74] at H
                         have c74b0 : decide (((rd_T92 (rd_L5 l0 x11_3) x14_4).f1) < (x13_4.length : Int)) = true := decide_eq_true c74
                         clear c74
                         by_cases c75 : (rd y156 ((rd_T92 (rd_L5 l0 x11_3) x14_4).f0)) > (rd x13_4 ((rd_T92 (rd_L5 l0 x11_3) x14_4).f1))
                         ·rw [if_pos c75] at H
                          have c75b0 : decide ((rd x13_4 ((rd_T92 (rd_L5 l0 x11_3) x14_4).f1)) < (rd y156 ((rd_T92 (rd_L5 l0 x11_3) x14_4).f0))) = true := decide_eq_true c75
                          clear c75
                          obtain ⟨y168, hy168⟩ : ∃ y_ : List Int, y_ = (x13_4.set (((rd_T92 (rd_L5 l0 x11_3) x14_4).f1) : Int).toNat (rd y156 ((rd_T92 (rd_L5 l0 x11_3) x14_4).f0))) := ⟨_, rfl⟩
                          replace H : (spec_Finish.l2 k4 l0 l3 x11_3 y156 y168 (wrap64 (x14_4 + 1))) = some r := by first | (rw [hy168]; with_reducible exact H) | (have H2_ := (Option.bind_some _ _).symm.trans H; rw [hy168]; with_reducible exact H2_) | (have H2_ := (Option.bind_some _ _).symm.trans H; with_reducible exact H2_) | with_reducible exact H | (rw [hy168]; exact H) | exact H
                          have Ny168 := Ω5 hy168
                          clear hy168
                          have H' := Ω5 H
                          clear H
                          have p150 : 0 ≤ (x11_3 : Int) := of_decide_eq_true (by first | (with_reducible assumption) | assumption)
                          have q150 : x11_3 < (l0.length : Int) := of_decide_eq_true (by first | (with_reducible assumption) | assumption)
                          obtain ⟨ad150, A150_0, c150_0, e150, hx150_0, hl150_0, hi150_0⟩ := at_L5 HR0.out x11_3 p150 q150
                          cases e150
                          replace hx150_0 := (HB.out.cell (World.block_lt_of_cell? w _ hx150_0)).trans hx150_0
                          have HR150_0 := Ω5 hi150_0
                          have HC150_0 := Ω5 hl150_0
                          clear hi150_0 hl150_0
                          replace p150 := eq_true p150
                          replace q150 := eq_true q150
                          have p151 : 0 ≤ (x11_3 : Int) := of_decide_eq_true (by first | (with_reducible assumption) | assumption)
                          have q151 : x11_3 < (l0.length : Int) := of_decide_eq_true (by first | (with_reducible assumption) | assumption)
                          obtain ⟨ad151, A151_0, c151_0, e151, hx151_0, hl151_0, hi151_0⟩ := at_L5 HR0.out x11_3 p151 q151
                          obtain rfl : ad150 = ad151 := (by injection e151)
                          replace hx151_0 := (HB.out.cell (World.block_lt_of_cell? w _ hx151_0)).trans hx151_0
                          have HR151_0 := Ω5 hi151_0
                          have HC151_0 := Ω5 hl151_0
                          clear hi151_0 hl151_0
                          replace p151 := eq_true p151
                          replace q151 := eq_true q151
                          have ea_ := Option.some.inj (hx150_0.symm.trans hx151_0)
                          injection ea_ with ea_ en_ ec_
                          subst ea_
                          subst ec_
                          clear en_
                          have p152 : 0 ≤ (x14_4 : Int) := of_decide_eq_true (by first | (with_reducible assumption) | assumption)
                          have q152 : x14_4 < ((rd_L5 l0 x11_3).length : Int) := of_decide_eq_true (by first | (with_reducible assumption) | assumption)
                          obtain ⟨ad152, e152, hx152_0, hx152_1, hx152_2, hx152_3⟩ := at_T92 HR151_0.out x14_4 p152 q152
                          cases e152
                          replace hx152_0 := (HB.out.cell (World.block_lt_of_cell? w _ hx152_0)).trans hx152_0
                          replace hx152_1 := (HB.out.cell (World.block_lt_of_cell? w _ hx152_1)).trans hx152_1
                          replace hx152_2 := (HB.out.cell (World.block_lt_of_cell? w _ hx152_2)).trans hx152_2
                          replace hx152_3 := (HB.out.cell (World.block_lt_of_cell? w _ hx152_3)).trans hx152_3
                          replace p152 := eq_true p152
                          replace q152 := eq_true q152
                          try go_wp2_with (first | ((with_reducible refine gate_dst (N := 15) rfl ?_); (try (refine gate_guard (by rfl) ?_; dsimp only)); refine box_event ?hg (N := 15) ?hd (cs := #[.int .i64 0, .int .i64 0, .int .i64 0, .bool false]) (t := 92) ?hr ?_; (case hd => rfl); (case hg => rfl); (case hr => first | (go_simp; done) | (go_simp; rfl)); intro gb153 hg w77 hbox hb; have BK153 := Ω5 (hbox); have GW153 := Ω5 ((by rw [hg]; exact (below_size (Hu HB.out)) : w.heap.size ≤ gb153)); have GE153 := Ω5 ((by rw [hg]; exact (below_size (Hu HB.out)) : w.heap.size ≤ gb153)); replace HO_12 := Ω5 (Rb HO_12.out hb); replace HO_13 := Ω5 (Rb HO_13.out hb); replace HB := Ω5 (below_step (Hu HB.out) hb); clear hb hbox hg; have hcz78_0 : w77.cell? ⟨gb153, 0, none⟩ = some (.int .i64 0) := (ΩJ BK153.out 0).trans rfl; have hcz78_1 : w77.cell? ⟨gb153, 1, none⟩ = some (.int .i64 0) := (ΩJ BK153.out 1).trans rfl; have hcz78_2 : w77.cell? ⟨gb153, 2, none⟩ = some (.int .i64 0) := (ΩJ BK153.out 2).trans rfl; have hcz78_3 : w77.cell? ⟨gb153, 3, none⟩ = some (.bool false) := (ΩJ BK153.out 3).trans rfl; have hfz78_0 := ΩF BK153.out 0; have hfz78_1 := ΩF BK153.out 1; have hfz78_2 := ΩF BK153.out 2; have hfz78_3 := ΩF BK153.out 3))
                          have n0_ : Aside0 (Kd.R (Kd.int .i64) 3 ((((w77.setCell ⟨gb153, 0, none⟩ (.int .i64 ((rd_T92 (rd_L5 l0 x11_3) x14_4).f0))).setCell ⟨gb153, 1, none⟩ (.int .i64 ((rd_T92 (rd_L5 l0 x11_3) x14_4).f1))).setCell ⟨gb153, 2, none⟩ (.int .i64 ((rd_T92 (rd_L5 l0 x11_3) x14_4).f2))).setCell ⟨gb153, 3, none⟩ (.bool ((rd_T92 (rd_L5 l0 x11_3) x14_4).f3))) w.heap.size (fun k_ => some k_ ≠ (v148 : Value).ownBlock) v145 x12_4) := ⟨by (with_reducible repeat (first | apply Ω1 | apply Ω2 | apply Ω3)); exact ΩE (Ω4 (p := ⟨gb153, 3, none⟩) (Ω4 (p := ⟨gb153, 2, none⟩) (Ω4 (p := ⟨gb153, 1, none⟩) (Ω4 (p := ⟨gb153, 0, none⟩) (Kd.R_types HO_12.out BK153.out (by decide)) (fun _ hk => hk.2) (.int .i64 ((rd_T92 (rd_L5 l0 x11_3) x14_4).f0))) (fun _ hk => hk.2) (.int .i64 ((rd_T92 (rd_L5 l0 x11_3) x14_4).f1))) (fun _ hk => hk.2) (.int .i64 ((rd_T92 (rd_L5 l0 x11_3) x14_4).f2))) (fun _ hk => hk.2) (.bool ((rd_T92 (rd_L5 l0 x11_3) x14_4).f3))) (fun _ hk => hk.1)⟩
                          have n1_ : Aside0 (Kd.R (Kd.int .i64) 3 ((((w77.setCell ⟨gb153, 0, none⟩ (.int .i64 ((rd_T92 (rd_L5 l0 x11_3) x14_4).f0))).setCell ⟨gb153, 1, none⟩ (.int .i64 ((rd_T92 (rd_L5 l0 x11_3) x14_4).f1))).setCell ⟨gb153, 2, none⟩ (.int .i64 ((rd_T92 (rd_L5 l0 x11_3) x14_4).f2))).setCell ⟨gb153, 3, none⟩ (.bool ((rd_T92 (rd_L5 l0 x11_3) x14_4).f3))) w.heap.size (fun k_ => some k_ ≠ (v145 : Value).ownBlock) v148 x13_4) := ⟨by (with_reducible repeat (first | apply Ω1 | apply Ω2 | apply Ω3)); exact ΩE (Ω4 (p := ⟨gb153, 3, none⟩) (Ω4 (p := ⟨gb153, 2, none⟩) (Ω4 (p := ⟨gb153, 1, none⟩) (Ω4 (p := ⟨gb153, 0, none⟩) (Kd.R_types HO_13.out BK153.out (by decide)) (fun _ hk => hk.2) (.int .i64 ((rd_T92 (rd_L5 l0 x11_3) x14_4).f0))) (fun _ hk => hk.2) (.int .i64 ((rd_T92 (rd_L5 l0 x11_3) x14_4).f1))) (fun _ hk => hk.2) (.int .i64 ((rd_T92 (rd_L5 l0 x11_3) x14_4).f2))) (fun _ hk => hk.2) (.bool ((rd_T92 (rd_L5 l0 x11_3) x14_4).f3))) (fun _ hk => hk.1)⟩
                          have n2_ : Aside0 (((((w77.setCell ⟨gb153, 0, none⟩ (.int .i64 ((rd_T92 (rd_L5 l0 x11_3) x14_4).f0))).setCell ⟨gb153, 1, none⟩ (.int .i64 ((rd_T92 (rd_L5 l0 x11_3) x14_4).f1))).setCell ⟨gb153, 2, none⟩ (.int .i64 ((rd_T92 (rd_L5 l0 x11_3) x14_4).f2))).setCell ⟨gb153, 3, none⟩ (.bool ((rd_T92 (rd_L5 l0 x11_3) x14_4).f3))).heap[gb153]? = some (.cells #[.int .i64 ((rd_T92 (rd_L5 l0 x11_3) x14_4).f0), .int .i64 ((rd_T92 (rd_L5 l0 x11_3) x14_4).f1), .int .i64 ((rd_T92 (rd_L5 l0 x11_3) x14_4).f2), .bool ((rd_T92 (rd_L5 l0 x11_3) x14_4).f3)] 92 (0, 0))) := ⟨by (with_reducible repeat (first | refine ΩA ?_ _ | refine ΩC ?_ | refine ΩB ?_ _)); refine blk_put (cs := #[.int .i64 ((rd_T92 (rd_L5 l0 x11_3) x14_4).f0), .int .i64 ((rd_T92 (rd_L5 l0 x11_3) x14_4).f1), .int .i64 ((rd_T92 (rd_L5 l0 x11_3) x14_4).f2), .bool false]) ?_ 3 _ rfl; (with_reducible repeat (first | refine ΩA ?_ _ | refine ΩC ?_ | refine ΩB ?_ _)); refine blk_put (cs := #[.int .i64 ((rd_T92 (rd_L5 l0 x11_3) x14_4).f0), .int .i64 ((rd_T92 (rd_L5 l0 x11_3) x14_4).f1), .int .i64 0, .bool false]) ?_ 2 _ rfl; (with_reducible repeat (first | refine ΩA ?_ _ | refine ΩC ?_ | refine ΩB ?_ _)); refine blk_put (cs := #[.int .i64 ((rd_T92 (rd_L5 l0 x11_3) x14_4).f0), .int .i64 0, .int .i64 0, .bool false]) ?_ 1 _ rfl; (with_reducible repeat (first | refine ΩA ?_ _ | refine ΩC ?_ | refine ΩB ?_ _)); refine blk_put (cs := #[.int .i64 0, .int .i64 0, .int .i64 0, .bool false]) ?_ 0 _ rfl; (with_reducible repeat (first | refine ΩA ?_ _ | refine ΩC ?_ | refine ΩB ?_ _)); exact BK153.out⟩
                          have n3_ : Aside0 (Below w.heap.size w ((((w77.setCell ⟨gb153, 0, none⟩ (.int .i64 ((rd_T92 (rd_L5 l0 x11_3) x14_4).f0))).setCell ⟨gb153, 1, none⟩ (.int .i64 ((rd_T92 (rd_L5 l0 x11_3) x14_4).f1))).setCell ⟨gb153, 2, none⟩ (.int .i64 ((rd_T92 (rd_L5 l0 x11_3) x14_4).f2))).setCell ⟨gb153, 3, none⟩ (.bool ((rd_T92 (rd_L5 l0 x11_3) x14_4).f3)))) := ⟨HBu HB.out⟩
                          (try clear HO_12)
                          (try clear HO_13)
                          (try clear BK153)
                          (try clear HB)
                          generalize ((((w77.setCell ⟨gb153, 0, none⟩ (.int .i64 ((rd_T92 (rd_L5 l0 x11_3) x14_4).f0))).setCell ⟨gb153, 1, none⟩ (.int .i64 ((rd_T92 (rd_L5 l0 x11_3) x14_4).f1))).setCell ⟨gb153, 2, none⟩ (.int .i64 ((rd_T92 (rd_L5 l0 x11_3) x14_4).f2))).setCell ⟨gb153, 3, none⟩ (.bool ((rd_T92 (rd_L5 l0 x11_3) x14_4).f3))) = w79 at n0_ n1_ n2_ n3_ ⊢
                          have HO_12 := n0_
                          have HO_13 := n1_
                          have BK153 := n2_
                          have HB := n3_
                          clear n0_ n1_ n2_ n3_
                          replace HO_12 := Ω5 (Ω3 HO_12.out)
                          replace HO_13 := Ω5 (Ω3 HO_13.out)
                          replace BK153 := Ω5 (ΩC BK153.out)
                          replace HB := Ω5 (Ω8 HB.out)
                          obtain ⟨Ao81, co81, eo81⟩ := Kd.R_slice HO_12.out
                          (first | subst eo81 | (injection eo81 with f1_ f2_ f3_; have f4_ := f1_.symm; have f5_ := f3_.symm; clear f1_ f2_ f3_; subst f4_; subst f5_))
                          have p154 : 0 ≤ (((rd_T92 (rd_L5 l0 x11_3) x14_4).f0) : Int) := of_decide_eq_true (by first | (with_reducible assumption) | assumption)
                          have q154 : ((rd_T92 (rd_L5 l0 x11_3) x14_4).f0) < (x12_4.length : Int) := of_decide_eq_true (by first | (with_reducible assumption) | assumption)
                          obtain ⟨ad154, e154, hx154_0⟩ := Kd.at_int (Kd.R_reads' HO_12.out).2.2 ((rd_T92 (rd_L5 l0 x11_3) x14_4).f0) p154 q154
                          cases e154
                          replace p154 := eq_true p154
                          replace q154 := eq_true q154
                          have p155 : 0 ≤ (((rd_T92 (rd_L5 l0 x11_3) x14_4).f0) : Int) := of_decide_eq_true (by first | (with_reducible assumption) | assumption)
                          have q155 : ((rd_T92 (rd_L5 l0 x11_3) x14_4).f0) < (l3.length : Int) := of_decide_eq_true (by first | (with_reducible assumption) | assumption)
                          obtain ⟨ad155, e155, hx155_0⟩ := Kd.at_int HR3.out ((rd_T92 (rd_L5 l0 x11_3) x14_4).f0) p155 q155
                          have hw155_0 := hx155_0
                          cases e155
                          replace hx155_0 := (HB.out.cell (World.block_lt_of_cell? w _ hx155_0)).trans hx155_0
                          replace p155 := eq_true p155
                          replace q155 := eq_true q155
                          have p37 : 0 ≤ (((rd_T92 (rd_L5 l0 x11_3) x14_4).f0) : Int) := of_decide_eq_true (by first | (with_reducible assumption) | assumption)
                          have q37 : (((rd_T92 (rd_L5 l0 x11_3) x14_4).f0) : Int) < ((x12_4.length : Int) : Int) := of_decide_eq_true (by first | (with_reducible assumption) | assumption)
                          obtain ⟨go37, co37, eo37, gb37, gl37, cl37, HG37⟩ := Kd.R_form HO_12.out (by omega)
                          (first | cases eo37 | (injection eo37 with ea_ en_ ec_; (first | subst ea_ | (injection ea_ with ea_; subst ea_)); subst ec_; clear en_))
                          have GB37 := Ω5 gb37
                          have GG37 := Ω5 HG37
                          clear gb37 gl37 HG37
                          (first | simp only [add_plain] at hx154_0 | skip)
                          obtain ⟨hx37_0, hf37_0⟩ := Kd.R_celln 0 HO_12.out (((rd_T92 (rd_L5 l0 x11_3) x14_4).f0) : Int) p37 q37
                          replace p37 := eq_true p37
                          replace q37 := eq_true q37
                          have HP82 := Kd.R_putn HO_12.out (((rd_T92 (rd_L5 l0 x11_3) x14_4).f0) : Int) (wrap64 ((rd x12_4 ((rd_T92 (rd_L5 l0 x11_3) x14_4).f0)) + (rd l3 ((rd_T92 (rd_L5 l0 x11_3) x14_4).f0))))
                          rw [← Ny156.out] at HP82
                          have HQ82 := Ω5 HP82
                          clear HP82
                          refine start_ (n := 16) (S := fun w' => w'.cell? ⟨gb153, 0, none⟩ = some (.int .i64 ((rd_T92 (rd_L5 l0 x11_3) x14_4).f0)) ∧ w'.cell? ⟨gb153, 1, none⟩ = some (.int .i64 ((rd_T92 (rd_L5 l0 x11_3) x14_4).f1)) ∧ w'.cell? ⟨gb153, 2, none⟩ = some (.int .i64 ((rd_T92 (rd_L5 l0 x11_3) x14_4).f2)) ∧ w'.cell? ⟨gb153, 3, none⟩ = some (.bool ((rd_T92 (rd_L5 l0 x11_3) x14_4).f3)) ∧ w'.cell? ⟨go37, (((rd_T92 (rd_L5 l0 x11_3) x14_4).f0)).toNat, none⟩ = some (.int .i64 (rd x12_4 ((rd_T92 (rd_L5 l0 x11_3) x14_4).f0))) ∧ w'.cell? (ad155.add (((rd_T92 (rd_L5 l0 x11_3) x14_4).f0)).toNat) = some (.int .i64 (rd l3 ((rd_T92 (rd_L5 l0 x11_3) x14_4).f0)))) (ds := [15]) #[false, false, false, false, false, false, false, false, false, false, false, false, false, false, false, false] (by kernel_rfl) rfl rfl ⟨(ΩJ BK153.out 0).trans rfl, (ΩJ BK153.out 1).trans rfl, (ΩJ BK153.out 2).trans rfl, (ΩJ BK153.out 3).trans rfl, hx154_0, ((HB.out.cell (World.block_lt_of_cell? w _ hw155_0)).trans hw155_0)⟩ (fun hHeld => ?_); refine with_tabW spec_Finish.tab18 spec_Finish.bits18 (fun HT_ HW_ => ?_)
                          generalize w79.drew = w80 at HO_12 HO_13 BK153 HB GG37 HQ82 hf37_0 hx154_0 hx155_0 hx37_0 hHeld ⊢
                          refine pure_ (i := 0) (N := some 68) (v := ?_) (a' := ?_) #[true, false, false, false, false, false, false, false, false, false, false, false, false, false, false, false] rfl rfl (any_of HT_.out (by kernel_rfl)) (fun _ _ _ h => h) (Or.inl ⟨by rfl, ?_⟩) ?_ ?_
                          rotate_left
                          ·intro w'
                           go_simp
                           with_reducible rfl
                          rotate_left
                          ·simp only [Act.put, List.setIfInBounds_toArray, List.set_cons_zero, List.set_cons_succ, i64_w, i32_w]
                           rfl
                          refine pure_ (i := 1) (N := some 69) (v := ?_) (a' := ?_) #[true, true, false, false, false, false, false, false, false, false, false, false, false, false, false, false] rfl rfl (any_of HT_.out (by kernel_rfl)) (fun _ _ _ h => h) (Or.inl ⟨by rfl, ?_⟩) ?_ ?_
                          rotate_left
                          ·intro w'
                           go_simp
                           with_reducible rfl
                          rotate_left
                          ·simp only [Act.put, List.setIfInBounds_toArray, List.set_cons_zero, List.set_cons_succ, i64_w, i32_w]
                           rfl
                          refine pure_ (i := 3) (N := some 71) (v := ?_) (a' := ?_) #[true, true, false, true, false, false, false, false, false, false, false, false, false, false, false, false] rfl rfl (any_of HT_.out (by kernel_rfl)) (fun _ _ _ h => h) (Or.inl ⟨by rfl, ?_⟩) ?_ ?_
                          rotate_left
                          ·intro w'
                           go_simp
                           with_reducible rfl
                          rotate_left
                          ·simp only [Act.put, List.setIfInBounds_toArray, List.set_cons_zero, List.set_cons_succ, i64_w, i32_w]
                           rfl
                          refine pure_ (i := 4) (N := some 72) (v := ?_) (a' := ?_) #[true, true, false, true, true, false, false, false, false, false, false, false, false, false, false, false] rfl rfl (any_of HT_.out (by kernel_rfl)) (fun _ _ _ h => h) (Or.inl ⟨by rfl, ?_⟩) ?_ ?_
                          rotate_left
                          ·intro w'
                           go_simp
                           with_reducible rfl
                          rotate_left
                          ·simp only [Act.put, List.setIfInBounds_toArray, List.set_cons_zero, List.set_cons_succ, i64_w, i32_w]
                           rfl
                          refine pure_ (i := 8) (N := some 76) (v := ?_) (a' := ?_) #[true, true, false, true, true, false, false, false, true, false, false, false, false, false, false, false] rfl rfl (any_of HT_.out (by kernel_rfl)) (fun _ _ _ h => h) (Or.inl ⟨by rfl, ?_⟩) ?_ ?_
                          rotate_left
                          ·intro w'
                           go_simp
                           with_reducible rfl
                          rotate_left
                          ·simp only [Act.put, List.setIfInBounds_toArray, List.set_cons_zero, List.set_cons_succ, i64_w, i32_w]
                           rfl
                          refine pure_ (i := 9) (N := some 77) (v := ?_) (a' := ?_) #[true, true, false, true, true, false, false, false, true, true, false, false, false, false, false, false] rfl rfl (any_of HT_.out (by kernel_rfl)) (fun _ _ _ h => h) (Or.inl ⟨by rfl, ?_⟩) ?_ ?_
                          rotate_left
                          ·intro w'
                           go_simp
                           with_reducible rfl
                          rotate_left
                          ·simp only [Act.put, List.setIfInBounds_toArray, List.set_cons_zero, List.set_cons_succ, i64_w, i32_w]
                           rfl
                          refine take_ (i := 2) (N := some 70) (v := ?_) (a' := ?_) #[true, true, true, true, true, false, false, false, true, true, false, false, false, false, false, false] rfl rfl (take_ofW HT_.out HW_.out (by kernel_rfl)) (fun _ _ _ h => h) (Or.inl ⟨by rfl, ?_⟩) hHeld ?_ ?_
                          rotate_left
                          ·rintro w' ⟨s0, s1, s2, s3, s4, s5⟩
                           go_simp
                           with_reducible rfl
                          rotate_left
                          ·simp only [Act.put, List.setIfInBounds_toArray, List.set_cons_zero, List.set_cons_succ, i64_w, i32_w]
                           rfl
                          refine take_ (i := 5) (N := some 73) (v := ?_) (a' := ?_) #[true, true, true, true, true, true, false, false, true, true, false, false, false, false, false, false] rfl rfl (take_ofW HT_.out HW_.out (by kernel_rfl)) (fun _ _ _ h => h) (Or.inl ⟨by rfl, ?_⟩) hHeld ?_ ?_
                          rotate_left
                          ·rintro w' ⟨s0, s1, s2, s3, s4, s5⟩
                           go_simp
                           with_reducible rfl
                          rotate_left
                          ·simp only [Act.put, List.setIfInBounds_toArray, List.set_cons_zero, List.set_cons_succ, i64_w, i32_w]
                           rfl
                          refine pure_ (i := 6) (N := some 74) (v := ?_) (a' := ?_) #[true, true, true, true, true, true, true, false, true, true, false, false, false, false, false, false] rfl rfl (any_of HT_.out (by kernel_rfl)) (fun _ _ _ h => h) (Or.inl ⟨by rfl, ?_⟩) ?_ ?_
                          rotate_left
                          ·intro w'
                           go_simp
                           with_reducible rfl
                          rotate_left
                          ·simp only [Act.put, List.setIfInBounds_toArray, List.set_cons_zero, List.set_cons_succ, i64_w, i32_w]
                           rfl
                          refine take_ (i := 7) (N := some 75) (v := ?_) (a' := ?_) #[true, true, true, true, true, true, true, true, true, true, false, false, false, false, false, false] rfl rfl (take_ofW HT_.out HW_.out (by kernel_rfl)) (fun _ _ _ h => h) (Or.inl ⟨by rfl, ?_⟩) hHeld ?_ ?_
                          rotate_left
                          ·rintro w' ⟨s0, s1, s2, s3, s4, s5⟩
                           go_simp
                           with_reducible rfl
                          rotate_left
                          ·simp only [Act.put, List.setIfInBounds_toArray, List.set_cons_zero, List.set_cons_succ, i64_w, i32_w]
                           rfl
                          refine take_ (i := 10) (N := some 78) (v := ?_) (a' := ?_) #[true, true, true, true, true, true, true, true, true, true, true, false, false, false, false, false] rfl rfl (take_ofW HT_.out HW_.out (by kernel_rfl)) (fun _ _ _ h => h) (Or.inl ⟨by rfl, ?_⟩) hHeld ?_ ?_
                          rotate_left
                          ·rintro w' ⟨s0, s1, s2, s3, s4, s5⟩
                           go_simp
                           with_reducible rfl
                          rotate_left
                          ·simp only [Act.put, List.setIfInBounds_toArray, List.set_cons_zero, List.set_cons_succ, i64_w, i32_w]
                           rfl
                          refine pure_ (i := 11) (N := some 79) (v := ?_) (a' := ?_) #[true, true, true, true, true, true, true, true, true, true, true, true, false, false, false, false] rfl rfl (any_of HT_.out (by kernel_rfl)) (fun _ _ _ h => h) (Or.inl ⟨by rfl, ?_⟩) ?_ ?_
                          rotate_left
                          ·intro w'
                           go_simp
                           with_reducible rfl
                          rotate_left
                          ·simp only [Act.put, List.setIfInBounds_toArray, List.set_cons_zero, List.set_cons_succ, i64_w, i32_w]
                           rfl
                          refine take_ (i := 12) (N := some 80) (v := ?_) (a' := ?_) #[true, true, true, true, true, true, true, true, true, true, true, true, true, false, false, false] rfl rfl (take_ofW HT_.out HW_.out (by kernel_rfl)) (fun _ _ _ h => h) (Or.inl ⟨by rfl, ?_⟩) hHeld ?_ ?_
                          rotate_left
                          ·rintro w' ⟨s0, s1, s2, s3, s4, s5⟩
                           go_simp
                           with_reducible rfl
                          rotate_left
                          ·simp only [Act.put, List.setIfInBounds_toArray, List.set_cons_zero, List.set_cons_succ, i64_w, i32_w]
                           rfl
                          refine pure_ (i := 13) (N := some 81) (v := ?_) (a' := ?_) #[true, true, true, true, true, true, true, true, true, true, true, true, true, true, false, false] rfl rfl (any_of HT_.out (by kernel_rfl)) (fun _ _ _ h => h) (Or.inl ⟨by rfl, ?_⟩) ?_ ?_
                          rotate_left
                          ·intro w'
                           go_simp
                           with_reducible rfl
                          rotate_left
                          ·simp only [Act.put, List.setIfInBounds_toArray, List.set_cons_zero, List.set_cons_succ, i64_w, i32_w]
                           rfl
                          refine pure_ (i := 14) (N := some 82) (v := ?_) (a' := ?_) #[true, true, true, true, true, true, true, true, true, true, true, true, true, true, true, false] rfl rfl (any_of HT_.out (by kernel_rfl)) (fun _ _ _ h => h) (Or.inl ⟨by rfl, ?_⟩) ?_ ?_
                          rotate_left
                          ·intro w'
                           go_simp
                           with_reducible rfl
                          rotate_left
                          ·simp only [Act.put, List.setIfInBounds_toArray, List.set_cons_zero, List.set_cons_succ, i64_w, i32_w]
                           rfl
                          refine last_ (i := 15) (N := none) #[true, true, true, true, true, true, true, true, true, true, true, true, true, true, true, true] rfl rfl (one_of HT_.out (by kernel_rfl)) (by decide) (fun K hK => ?_)
                          refine skip_ (w1 := ?_) (by rfl) rfl ?_ ?_
                          rotate_left
                          ·go_simp
                           rfl
                          refine hK.out _ _ ?_
                          clear hK K
                          refine done_ (done_of HT_.out (by kernel_rfl)) ?_
                          try go_wp2
                          have n0_ : Aside0 (Kd.R (Kd.int .i64) 3 (w80.setCell ⟨go37, (((rd_T92 (rd_L5 l0 x11_3) x14_4).f0) : Int).toNat, none⟩ (.int .i64 (wrap64 ((rd x12_4 ((rd_T92 (rd_L5 l0 x11_3) x14_4).f0)) + (rd l3 ((rd_T92 (rd_L5 l0 x11_3) x14_4).f0)))))) w.heap.size (fun k_ => some k_ ≠ (v148 : Value).ownBlock) (.slice (some ⟨go37, 0, none⟩) x12_4.length co81) y156) := ⟨by (with_reducible repeat (first | apply Ω1 | apply Ω2 | apply Ω3)); exact HQ82.out⟩
                          have n1_ : Aside0 (Kd.R (Kd.int .i64) 3 (w80.setCell ⟨go37, (((rd_T92 (rd_L5 l0 x11_3) x14_4).f0) : Int).toNat, none⟩ (.int .i64 (wrap64 ((rd x12_4 ((rd_T92 (rd_L5 l0 x11_3) x14_4).f0)) + (rd l3 ((rd_T92 (rd_L5 l0 x11_3) x14_4).f0)))))) w.heap.size (fun k_ => some k_ ≠ (.slice (some ⟨go37, 0, none⟩) x12_4.length co81 : Value).ownBlock) v148 x13_4) := ⟨by (with_reducible repeat (first | apply Ω1 | apply Ω2 | apply Ω3)); exact ΩE (Ω4 (p := ⟨go37, (((rd_T92 (rd_L5 l0 x11_3) x14_4).f0) : Int).toNat, none⟩) (ΩE HO_13.out (fun k_ hk => (⟨hk, fun e_ => hk (by rw [e_]; rfl)⟩ : _ ∧ k_ ≠ go37))) (fun _ hk => hk.2) (.int .i64 (wrap64 ((rd x12_4 ((rd_T92 (rd_L5 l0 x11_3) x14_4).f0)) + (rd l3 ((rd_T92 (rd_L5 l0 x11_3) x14_4).f0)))))) (fun _ hk => hk.1)⟩
                          have n2_ : Aside0 ((w80.setCell ⟨go37, (((rd_T92 (rd_L5 l0 x11_3) x14_4).f0) : Int).toNat, none⟩ (.int .i64 (wrap64 ((rd x12_4 ((rd_T92 (rd_L5 l0 x11_3) x14_4).f0)) + (rd l3 ((rd_T92 (rd_L5 l0 x11_3) x14_4).f0)))))).heap[gb153]? = some (.cells #[.int .i64 ((rd_T92 (rd_L5 l0 x11_3) x14_4).f0), .int .i64 ((rd_T92 (rd_L5 l0 x11_3) x14_4).f1), .int .i64 ((rd_T92 (rd_L5 l0 x11_3) x14_4).f2), .bool ((rd_T92 (rd_L5 l0 x11_3) x14_4).f3)] 92 (0, 0))) := ⟨by (with_reducible repeat (first | refine ΩA ?_ _ | refine ΩC ?_ | refine ΩB ?_ _)); refine blk_far ?_ (by have h_ := Kd.R_ne HO_12.out BK153.out (by decide); intro e_; exact h_ (by rw [e_]; rfl)) _; (with_reducible repeat (first | refine ΩA ?_ _ | refine ΩC ?_ | refine ΩB ?_ _)); exact BK153.out⟩
                          have n3_ : Aside0 (Below w.heap.size w (w80.setCell ⟨go37, (((rd_T92 (rd_L5 l0 x11_3) x14_4).f0) : Int).toNat, none⟩ (.int .i64 (wrap64 ((rd x12_4 ((rd_T92 (rd_L5 l0 x11_3) x14_4).f0)) + (rd l3 ((rd_T92 (rd_L5 l0 x11_3) x14_4).f0))))))) := ⟨HBu HB.out⟩
                          (try clear HO_12)
                          (try clear HO_13)
                          (try clear BK153)
                          (try clear HB)
                          generalize (w80.setCell ⟨go37, (((rd_T92 (rd_L5 l0 x11_3) x14_4).f0) : Int).toNat, none⟩ (.int .i64 (wrap64 ((rd x12_4 ((rd_T92 (rd_L5 l0 x11_3) x14_4).f0)) + (rd l3 ((rd_T92 (rd_L5 l0 x11_3) x14_4).f0)))))) = w83 at n0_ n1_ n2_ n3_ ⊢
                          have HO_12 := n0_
                          have HO_13 := n1_
                          have BK153 := n2_
                          have HB := n3_
                          clear n0_ n1_ n2_ n3_
                          replace HO_12 := Ω5 (Ω3 HO_12.out)
                          replace HO_13 := Ω5 (Ω3 HO_13.out)
                          replace BK153 := Ω5 (ΩC BK153.out)
                          replace HB := Ω5 (Ω8 HB.out)
                          have p157 : 0 ≤ (((rd_T92 (rd_L5 l0 x11_3) x14_4).f0) : Int) := of_decide_eq_true (by first | (with_reducible assumption) | assumption)
                          have q157 : ((rd_T92 (rd_L5 l0 x11_3) x14_4).f0) < (y156.length : Int) := (by have h_ : (((rd_T92 (rd_L5 l0 x11_3) x14_4).f0) : Int) < ((x12_4.length : Int) : Int) := of_decide_eq_true (by first | (with_reducible assumption) | assumption); first | (have e_ := (Kd.R_reads' HO_12.out).1; omega) | simpa only [Ny156.out, List.length_set] using h_)
                          have ql157 : ((((rd_T92 (rd_L5 l0 x11_3) x14_4).f0) : Int) < ((x12_4.length : Int) : Int)) = True := eq_true (of_decide_eq_true (by first | (with_reducible assumption) | assumption))
                          obtain ⟨ad157, e157, hx157_0⟩ := Kd.at_int (Kd.R_reads' HO_12.out).2.2 ((rd_T92 (rd_L5 l0 x11_3) x14_4).f0) p157 q157
                          obtain rfl : (⟨go37, 0, none⟩ : Addr) = ad157 := (by injection e157)
                          (first | simp only [add_plain] at hx157_0 | simp only [add_at] at hx157_0 | simp only [Addr.add, Nat.zero_add] at hx157_0 | skip)
                          replace p157 := eq_true p157
                          replace q157 := eq_true q157
                          obtain ⟨Ao85, co85, eo85⟩ := Kd.R_slice HO_13.out
                          (first | subst eo85 | (injection eo85 with f1_ f2_ f3_; have f4_ := f1_.symm; have f5_ := f3_.symm; clear f1_ f2_ f3_; subst f4_; subst f5_))
                          have p158 : 0 ≤ (((rd_T92 (rd_L5 l0 x11_3) x14_4).f0) : Int) := of_decide_eq_true (by first | (with_reducible assumption) | assumption)
                          have q158 : ((rd_T92 (rd_L5 l0 x11_3) x14_4).f0) < (x13_4.length : Int) := of_decide_eq_true (by first | (with_reducible assumption) | assumption)
                          obtain ⟨ad158, e158, hx158_0⟩ := Kd.at_int (Kd.R_reads' HO_13.out).2.2 ((rd_T92 (rd_L5 l0 x11_3) x14_4).f0) p158 q158
                          cases e158
                          replace p158 := eq_true p158
                          replace q158 := eq_true q158
                          refine start_ (n := 11) (S := fun w' => w'.cell? ⟨gb153, 0, none⟩ = some (.int .i64 ((rd_T92 (rd_L5 l0 x11_3) x14_4).f0)) ∧ w'.cell? ⟨gb153, 1, none⟩ = some (.int .i64 ((rd_T92 (rd_L5 l0 x11_3) x14_4).f1)) ∧ w'.cell? ⟨gb153, 2, none⟩ = some (.int .i64 ((rd_T92 (rd_L5 l0 x11_3) x14_4).f2)) ∧ w'.cell? ⟨gb153, 3, none⟩ = some (.bool ((rd_T92 (rd_L5 l0 x11_3) x14_4).f3)) ∧ w'.cell? ⟨go37, (((rd_T92 (rd_L5 l0 x11_3) x14_4).f0)).toNat, none⟩ = some (.int .i64 (rd y156 ((rd_T92 (rd_L5 l0 x11_3) x14_4).f0))) ∧ w'.cell? (ad158.add (((rd_T92 (rd_L5 l0 x11_3) x14_4).f0)).toNat) = some (.int .i64 (rd x13_4 ((rd_T92 (rd_L5 l0 x11_3) x14_4).f0)))) (ds := []) #[false, false, false, false, false, false, false, false, false, false, false] (by kernel_rfl) rfl rfl ⟨(ΩJ BK153.out 0).trans rfl, (ΩJ BK153.out 1).trans rfl, (ΩJ BK153.out 2).trans rfl, (ΩJ BK153.out 3).trans rfl, hx157_0, hx158_0⟩ (fun hHeld => ?_); refine with_tabW spec_Finish.tab19 spec_Finish.bits19 (fun HT_ HW_ => ?_)
                          generalize w83.drew = w84 at HO_12 HO_13 BK153 HB HQ82 hx157_0 hx158_0 hHeld ⊢
                          refine pure_ (i := 0) (N := some 83) (v := ?_) (a' := ?_) #[true, false, false, false, false, false, false, false, false, false, false] rfl rfl (any_of HT_.out (by kernel_rfl)) (fun _ _ _ h => h) (Or.inl ⟨by rfl, ?_⟩) ?_ ?_
                          rotate_left
                          ·intro w'
                           go_simp
                           with_reducible rfl
                          rotate_left
                          ·simp only [Act.put, List.setIfInBounds_toArray, List.set_cons_zero, List.set_cons_succ, i64_w, i32_w]
                           rfl
                          refine pure_ (i := 1) (N := some 84) (v := ?_) (a' := ?_) #[true, true, false, false, false, false, false, false, false, false, false] rfl rfl (any_of HT_.out (by kernel_rfl)) (fun _ _ _ h => h) (Or.inl ⟨by rfl, ?_⟩) ?_ ?_
                          rotate_left
                          ·intro w'
                           go_simp
                           with_reducible rfl
                          rotate_left
                          ·simp only [Act.put, List.setIfInBounds_toArray, List.set_cons_zero, List.set_cons_succ, i64_w, i32_w]
                           rfl
                          refine pure_ (i := 5) (N := some 88) (v := ?_) (a' := ?_) #[true, true, false, false, false, true, false, false, false, false, false] rfl rfl (any_of HT_.out (by kernel_rfl)) (fun _ _ _ h => h) (Or.inl ⟨by rfl, ?_⟩) ?_ ?_
                          rotate_left
                          ·intro w'
                           go_simp
                           with_reducible rfl
                          rotate_left
                          ·simp only [Act.put, List.setIfInBounds_toArray, List.set_cons_zero, List.set_cons_succ, i64_w, i32_w]
                           rfl
                          refine pure_ (i := 6) (N := some 89) (v := ?_) (a' := ?_) #[true, true, false, false, false, true, true, false, false, false, false] rfl rfl (any_of HT_.out (by kernel_rfl)) (fun _ _ _ h => h) (Or.inl ⟨by rfl, ?_⟩) ?_ ?_
                          rotate_left
                          ·intro w'
                           go_simp
                           with_reducible rfl
                          rotate_left
                          ·simp only [Act.put, List.setIfInBounds_toArray, List.set_cons_zero, List.set_cons_succ, i64_w, i32_w]
                           rfl
                          refine take_ (i := 2) (N := some 85) (v := ?_) (a' := ?_) #[true, true, true, false, false, true, true, false, false, false, false] rfl rfl (take_ofW HT_.out HW_.out (by kernel_rfl)) (fun _ _ _ h => h) (Or.inl ⟨by rfl, ?_⟩) hHeld ?_ ?_
                          rotate_left
                          ·rintro w' ⟨s0, s1, s2, s3, s4, s5⟩
                           go_simp
                           with_reducible rfl
                          rotate_left
                          ·simp only [Act.put, List.setIfInBounds_toArray, List.set_cons_zero, List.set_cons_succ, i64_w, i32_w]
                           rfl
                          refine pure_ (i := 3) (N := some 86) (v := ?_) (a' := ?_) #[true, true, true, true, false, true, true, false, false, false, false] rfl rfl (any_of HT_.out (by kernel_rfl)) (fun _ _ _ h => h) (Or.inl ⟨by rfl, ?_⟩) ?_ ?_
                          rotate_left
                          ·intro w'
                           go_simp
                           with_reducible rfl
                          rotate_left
                          ·simp only [Act.put, List.setIfInBounds_toArray, List.set_cons_zero, List.set_cons_succ, i64_w, i32_w]
                           rfl
                          refine take_ (i := 4) (N := some 87) (v := ?_) (a' := ?_) #[true, true, true, true, true, true, true, false, false, false, false] rfl rfl (take_ofW HT_.out HW_.out (by kernel_rfl)) (fun _ _ _ h => h) (Or.inl ⟨by rfl, ?_⟩) hHeld ?_ ?_
                          rotate_left
                          ·rintro w' ⟨s0, s1, s2, s3, s4, s5⟩
                           go_simp
                           with_reducible rfl
                          rotate_left
                          ·simp only [Act.put, List.setIfInBounds_toArray, List.set_cons_zero, List.set_cons_succ, i64_w, i32_w]
                           rfl
                          refine take_ (i := 7) (N := some 90) (v := ?_) (a' := ?_) #[true, true, true, true, true, true, true, true, false, false, false] rfl rfl (take_ofW HT_.out HW_.out (by kernel_rfl)) (fun _ _ _ h => h) (Or.inl ⟨by rfl, ?_⟩) hHeld ?_ ?_
                          rotate_left
                          ·rintro w' ⟨s0, s1, s2, s3, s4, s5⟩
                           go_simp
                           with_reducible rfl
                          rotate_left
                          ·simp only [Act.put, List.setIfInBounds_toArray, List.set_cons_zero, List.set_cons_succ, i64_w, i32_w]
                           rfl
                          refine pure_ (i := 8) (N := some 91) (v := ?_) (a' := ?_) #[true, true, true, true, true, true, true, true, true, false, false] rfl rfl (any_of HT_.out (by kernel_rfl)) (fun _ _ _ h => h) (Or.inl ⟨by rfl, ?_⟩) ?_ ?_
                          rotate_left
                          ·intro w'
                           go_simp
                           with_reducible rfl
                          rotate_left
                          ·simp only [Act.put, List.setIfInBounds_toArray, List.set_cons_zero, List.set_cons_succ, i64_w, i32_w]
                           rfl
                          refine take_ (i := 9) (N := some 92) (v := ?_) (a' := ?_) #[true, true, true, true, true, true, true, true, true, true, false] rfl rfl (take_ofW HT_.out HW_.out (by kernel_rfl)) (fun _ _ _ h => h) (Or.inl ⟨by rfl, ?_⟩) hHeld ?_ ?_
                          rotate_left
                          ·rintro w' ⟨s0, s1, s2, s3, s4, s5⟩
                           go_simp
                           with_reducible rfl
                          rotate_left
                          ·simp only [Act.put, List.setIfInBounds_toArray, List.set_cons_zero, List.set_cons_succ, i64_w, i32_w]
                           rfl
                          refine pure_ (i := 10) (N := some 93) (v := ?_) (a' := ?_) #[true, true, true, true, true, true, true, true, true, true, true] rfl rfl (any_of HT_.out (by kernel_rfl)) (fun _ _ _ h => h) (Or.inl ⟨by rfl, ?_⟩) ?_ ?_
                          rotate_left
                          ·intro w'
                           go_simp
                           with_reducible rfl
                          rotate_left
                          ·simp only [Act.put, List.setIfInBounds_toArray, List.set_cons_zero, List.set_cons_succ, i64_w, i32_w]
                           rfl
                          refine done_ (done_of HT_.out (by kernel_rfl)) ?_
                          try go_wp2
                          replace HO_12 := Ω5 (Ω3 HO_12.out)
                          replace HO_13 := Ω5 (Ω3 HO_13.out)
                          replace BK153 := Ω5 (ΩC BK153.out)
                          replace HB := Ω5 (Ω8 HB.out)
                          have p165 : 0 ≤ (((rd_T92 (rd_L5 l0 x11_3) x14_4).f0) : Int) := of_decide_eq_true (by first | (with_reducible assumption) | assumption)
                          have q165 : ((rd_T92 (rd_L5 l0 x11_3) x14_4).f0) < (y156.length : Int) := (by have h_ : (((rd_T92 (rd_L5 l0 x11_3) x14_4).f0) : Int) < ((x12_4.length : Int) : Int) := of_decide_eq_true (by first | (with_reducible assumption) | assumption); first | (have e_ := (Kd.R_reads' HO_12.out).1; omega) | simpa only [Ny156.out, List.length_set] using h_)
                          have ql165 : ((((rd_T92 (rd_L5 l0 x11_3) x14_4).f0) : Int) < ((x12_4.length : Int) : Int)) = True := eq_true (of_decide_eq_true (by first | (with_reducible assumption) | assumption))
                          obtain ⟨ad165, e165, hx165_0⟩ := Kd.at_int (Kd.R_reads' HO_12.out).2.2 ((rd_T92 (rd_L5 l0 x11_3) x14_4).f0) p165 q165
                          obtain rfl : (⟨go37, 0, none⟩ : Addr) = ad165 := (by injection e165)
                          (first | simp only [add_plain] at hx165_0 | simp only [add_at] at hx165_0 | simp only [Addr.add, Nat.zero_add] at hx165_0 | skip)
                          replace p165 := eq_true p165
                          replace q165 := eq_true q165
                          have p166 : 0 ≤ (((rd_T92 (rd_L5 l0 x11_3) x14_4).f1) : Int) := of_decide_eq_true (by first | (with_reducible assumption) | assumption)
                          have q166 : ((rd_T92 (rd_L5 l0 x11_3) x14_4).f1) < (x13_4.length : Int) := of_decide_eq_true (by first | (with_reducible assumption) | assumption)
                          obtain ⟨ad166, e166, hx166_0⟩ := Kd.at_int (Kd.R_reads' HO_13.out).2.2 ((rd_T92 (rd_L5 l0 x11_3) x14_4).f1) p166 q166
                          obtain rfl : ad158 = ad166 := (by injection e166)
                          replace p166 := eq_true p166
                          replace q166 := eq_true q166
                          refine start_ (n := 11) (S := fun w' => w'.cell? ⟨gb153, 0, none⟩ = some (.int .i64 ((rd_T92 (rd_L5 l0 x11_3) x14_4).f0)) ∧ w'.cell? ⟨gb153, 1, none⟩ = some (.int .i64 ((rd_T92 (rd_L5 l0 x11_3) x14_4).f1)) ∧ w'.cell? ⟨gb153, 2, none⟩ = some (.int .i64 ((rd_T92 (rd_L5 l0 x11_3) x14_4).f2)) ∧ w'.cell? ⟨gb153, 3, none⟩ = some (.bool ((rd_T92 (rd_L5 l0 x11_3) x14_4).f3)) ∧ w'.cell? ⟨go37, (((rd_T92 (rd_L5 l0 x11_3) x14_4).f0)).toNat, none⟩ = some (.int .i64 (rd y156 ((rd_T92 (rd_L5 l0 x11_3) x14_4).f0))) ∧ w'.cell? (ad158.add (((rd_T92 (rd_L5 l0 x11_3) x14_4).f1)).toNat) = some (.int .i64 (rd x13_4 ((rd_T92 (rd_L5 l0 x11_3) x14_4).f1)))) (ds := []) #[false, false, false, false, false, false, false, false, false, false, false] (by kernel_rfl) rfl rfl ⟨(ΩJ BK153.out 0).trans rfl, (ΩJ BK153.out 1).trans rfl, (ΩJ BK153.out 2).trans rfl, (ΩJ BK153.out 3).trans rfl, hx165_0, hx166_0⟩ (fun hHeld => ?_); refine with_tabW spec_Finish.tab21 spec_Finish.bits21 (fun HT_ HW_ => ?_)
                          generalize w84.drew = w86 at HO_12 HO_13 BK153 HB hx165_0 hx166_0 hHeld ⊢
                          refine pure_ (i := 0) (N := some 103) (v := ?_) (a' := ?_) #[true, false, false, false, false, false, false, false, false, false, false] rfl rfl (any_of HT_.out (by kernel_rfl)) (fun _ _ _ h => h) (Or.inl ⟨by rfl, ?_⟩) ?_ ?_
                          rotate_left
                          ·intro w'
                           go_simp
                           with_reducible rfl
                          rotate_left
                          ·simp only [Act.put, List.setIfInBounds_toArray, List.set_cons_zero, List.set_cons_succ, i64_w, i32_w]
                           rfl
                          refine pure_ (i := 1) (N := some 104) (v := ?_) (a' := ?_) #[true, true, false, false, false, false, false, false, false, false, false] rfl rfl (any_of HT_.out (by kernel_rfl)) (fun _ _ _ h => h) (Or.inl ⟨by rfl, ?_⟩) ?_ ?_
                          rotate_left
                          ·intro w'
                           go_simp
                           with_reducible rfl
                          rotate_left
                          ·simp only [Act.put, List.setIfInBounds_toArray, List.set_cons_zero, List.set_cons_succ, i64_w, i32_w]
                           rfl
                          refine pure_ (i := 5) (N := some 108) (v := ?_) (a' := ?_) #[true, true, false, false, false, true, false, false, false, false, false] rfl rfl (any_of HT_.out (by kernel_rfl)) (fun _ _ _ h => h) (Or.inl ⟨by rfl, ?_⟩) ?_ ?_
                          rotate_left
                          ·intro w'
                           go_simp
                           with_reducible rfl
                          rotate_left
                          ·simp only [Act.put, List.setIfInBounds_toArray, List.set_cons_zero, List.set_cons_succ, i64_w, i32_w]
                           rfl
                          refine pure_ (i := 6) (N := some 109) (v := ?_) (a' := ?_) #[true, true, false, false, false, true, true, false, false, false, false] rfl rfl (any_of HT_.out (by kernel_rfl)) (fun _ _ _ h => h) (Or.inl ⟨by rfl, ?_⟩) ?_ ?_
                          rotate_left
                          ·intro w'
                           go_simp
                           with_reducible rfl
                          rotate_left
                          ·simp only [Act.put, List.setIfInBounds_toArray, List.set_cons_zero, List.set_cons_succ, i64_w, i32_w]
                           rfl
                          refine take_ (i := 2) (N := some 105) (v := ?_) (a' := ?_) #[true, true, true, false, false, true, true, false, false, false, false] rfl rfl (take_ofW HT_.out HW_.out (by kernel_rfl)) (fun _ _ _ h => h) (Or.inl ⟨by rfl, ?_⟩) hHeld ?_ ?_
                          rotate_left
                          ·rintro w' ⟨s0, s1, s2, s3, s4, s5⟩
                           go_simp
                           with_reducible rfl
                          rotate_left
                          ·simp only [Act.put, List.setIfInBounds_toArray, List.set_cons_zero, List.set_cons_succ, i64_w, i32_w]
                           rfl
                          refine pure_ (i := 3) (N := some 106) (v := ?_) (a' := ?_) #[true, true, true, true, false, true, true, false, false, false, false] rfl rfl (any_of HT_.out (by kernel_rfl)) (fun _ _ _ h => h) (Or.inl ⟨by rfl, ?_⟩) ?_ ?_
                          rotate_left
                          ·intro w'
                           go_simp
                           with_reducible rfl
                          rotate_left
                          ·simp only [Act.put, List.setIfInBounds_toArray, List.set_cons_zero, List.set_cons_succ, i64_w, i32_w]
                           rfl
                          refine take_ (i := 4) (N := some 107) (v := ?_) (a' := ?_) #[true, true, true, true, true, true, true, false, false, false, false] rfl rfl (take_ofW HT_.out HW_.out (by kernel_rfl)) (fun _ _ _ h => h) (Or.inl ⟨by rfl, ?_⟩) hHeld ?_ ?_
                          rotate_left
                          ·rintro w' ⟨s0, s1, s2, s3, s4, s5⟩
                           go_simp
                           with_reducible rfl
                          rotate_left
                          ·simp only [Act.put, List.setIfInBounds_toArray, List.set_cons_zero, List.set_cons_succ, i64_w, i32_w]
                           rfl
                          refine take_ (i := 7) (N := some 110) (v := ?_) (a' := ?_) #[true, true, true, true, true, true, true, true, false, false, false] rfl rfl (take_ofW HT_.out HW_.out (by kernel_rfl)) (fun _ _ _ h => h) (Or.inl ⟨by rfl, ?_⟩) hHeld ?_ ?_
                          rotate_left
                          ·rintro w' ⟨s0, s1, s2, s3, s4, s5⟩
                           go_simp
                           with_reducible rfl
                          rotate_left
                          ·simp only [Act.put, List.setIfInBounds_toArray, List.set_cons_zero, List.set_cons_succ, i64_w, i32_w]
                           rfl
                          refine pure_ (i := 8) (N := some 111) (v := ?_) (a' := ?_) #[true, true, true, true, true, true, true, true, true, false, false] rfl rfl (any_of HT_.out (by kernel_rfl)) (fun _ _ _ h => h) (Or.inl ⟨by rfl, ?_⟩) ?_ ?_
                          rotate_left
                          ·intro w'
                           go_simp
                           with_reducible rfl
                          rotate_left
                          ·simp only [Act.put, List.setIfInBounds_toArray, List.set_cons_zero, List.set_cons_succ, i64_w, i32_w]
                           rfl
                          refine take_ (i := 9) (N := some 112) (v := ?_) (a' := ?_) #[true, true, true, true, true, true, true, true, true, true, false] rfl rfl (take_ofW HT_.out HW_.out (by kernel_rfl)) (fun _ _ _ h => h) (Or.inl ⟨by rfl, ?_⟩) hHeld ?_ ?_
                          rotate_left
                          ·rintro w' ⟨s0, s1, s2, s3, s4, s5⟩
                           go_simp
                           with_reducible rfl
                          rotate_left
                          ·simp only [Act.put, List.setIfInBounds_toArray, List.set_cons_zero, List.set_cons_succ, i64_w, i32_w]
                           rfl
                          refine pure_ (i := 10) (N := some 113) (v := ?_) (a' := ?_) #[true, true, true, true, true, true, true, true, true, true, true] rfl rfl (any_of HT_.out (by kernel_rfl)) (fun _ _ _ h => h) (Or.inl ⟨by rfl, ?_⟩) ?_ ?_
                          rotate_left
                          ·intro w'
                           go_simp
                           with_reducible rfl
                          rotate_left
                          ·simp only [Act.put, List.setIfInBounds_toArray, List.set_cons_zero, List.set_cons_succ, i64_w, i32_w]
                           rfl
                          refine done_ (done_of HT_.out (by kernel_rfl)) ?_
                          try go_wp2
                          replace HO_12 := Ω5 (Ω3 HO_12.out)
                          replace HO_13 := Ω5 (Ω3 HO_13.out)
                          replace BK153 := Ω5 (ΩC BK153.out)
                          replace HB := Ω5 (Ω8 HB.out)
                          have p167 : 0 ≤ (((rd_T92 (rd_L5 l0 x11_3) x14_4).f0) : Int) := of_decide_eq_true (by first | (with_reducible assumption) | assumption)
                          have q167 : ((rd_T92 (rd_L5 l0 x11_3) x14_4).f0) < (y156.length : Int) := (by have h_ : (((rd_T92 (rd_L5 l0 x11_3) x14_4).f0) : Int) < ((x12_4.length : Int) : Int) := of_decide_eq_true (by first | (with_reducible assumption) | assumption); first | (have e_ := (Kd.R_reads' HO_12.out).1; omega) | simpa only [Ny156.out, List.length_set] using h_)
                          have ql167 : ((((rd_T92 (rd_L5 l0 x11_3) x14_4).f0) : Int) < ((x12_4.length : Int) : Int)) = True := eq_true (of_decide_eq_true (by first | (with_reducible assumption) | assumption))
                          obtain ⟨ad167, e167, hx167_0⟩ := Kd.at_int (Kd.R_reads' HO_12.out).2.2 ((rd_T92 (rd_L5 l0 x11_3) x14_4).f0) p167 q167
                          obtain rfl : (⟨go37, 0, none⟩ : Addr) = ad167 := (by injection e167)
                          (first | simp only [add_plain] at hx167_0 | simp only [add_at] at hx167_0 | simp only [Addr.add, Nat.zero_add] at hx167_0 | skip)
                          replace p167 := eq_true p167
                          replace q167 := eq_true q167
                          have p76 : 0 ≤ (((rd_T92 (rd_L5 l0 x11_3) x14_4).f1) : Int) := of_decide_eq_true (by first | (with_reducible assumption) | assumption)
                          have q76 : (((rd_T92 (rd_L5 l0 x11_3) x14_4).f1) : Int) < ((x13_4.length : Int) : Int) := of_decide_eq_true (by first | (with_reducible assumption) | assumption)
                          obtain ⟨go76, co76, eo76, gb76, gl76, cl76, HG76⟩ := Kd.R_form HO_13.out (by omega)
                          (first | cases eo76 | (injection eo76 with ea_ en_ ec_; (first | subst ea_ | (injection ea_ with ea_; subst ea_)); subst ec_; clear en_))
                          have GB76 := Ω5 gb76
                          have GG76 := Ω5 HG76
                          clear gb76 gl76 HG76
                          (first | simp only [add_plain] at hx158_0 | skip)
                          (first | simp only [add_plain] at hx166_0 | skip)
                          obtain ⟨hx76_0, hf76_0⟩ := Kd.R_celln 0 HO_13.out (((rd_T92 (rd_L5 l0 x11_3) x14_4).f1) : Int) p76 q76
                          replace p76 := eq_true p76
                          replace q76 := eq_true q76
                          have HP88 := Kd.R_putn HO_13.out (((rd_T92 (rd_L5 l0 x11_3) x14_4).f1) : Int) (rd y156 ((rd_T92 (rd_L5 l0 x11_3) x14_4).f0))
                          rw [← Ny168.out] at HP88
                          have HQ88 := Ω5 HP88
                          clear HP88
                          refine start_ (n := 10) (S := fun w' => w'.cell? ⟨gb153, 0, none⟩ = some (.int .i64 ((rd_T92 (rd_L5 l0 x11_3) x14_4).f0)) ∧ w'.cell? ⟨gb153, 1, none⟩ = some (.int .i64 ((rd_T92 (rd_L5 l0 x11_3) x14_4).f1)) ∧ w'.cell? ⟨gb153, 2, none⟩ = some (.int .i64 ((rd_T92 (rd_L5 l0 x11_3) x14_4).f2)) ∧ w'.cell? ⟨gb153, 3, none⟩ = some (.bool ((rd_T92 (rd_L5 l0 x11_3) x14_4).f3)) ∧ w'.cell? ⟨go37, (((rd_T92 (rd_L5 l0 x11_3) x14_4).f0)).toNat, none⟩ = some (.int .i64 (rd y156 ((rd_T92 (rd_L5 l0 x11_3) x14_4).f0)))) (ds := [9]) #[false, false, false, false, false, false, false, false, false, false] (by kernel_rfl) rfl rfl ⟨(ΩJ BK153.out 0).trans rfl, (ΩJ BK153.out 1).trans rfl, (ΩJ BK153.out 2).trans rfl, (ΩJ BK153.out 3).trans rfl, hx167_0⟩ (fun hHeld => ?_); refine with_tabW spec_Finish.tab22 spec_Finish.bits22 (fun HT_ HW_ => ?_)
                          generalize w86.drew = w87 at HO_12 HO_13 BK153 HB GG76 HQ88 hf76_0 hx158_0 hx166_0 hx167_0 hx76_0 hHeld ⊢
                          refine pure_ (i := 0) (N := some 114) (v := ?_) (a' := ?_) #[true, false, false, false, false, false, false, false, false, false] rfl rfl (any_of HT_.out (by kernel_rfl)) (fun _ _ _ h => h) (Or.inl ⟨by rfl, ?_⟩) ?_ ?_
                          rotate_left
                          ·intro w'
                           go_simp
                           with_reducible rfl
                          rotate_left
                          ·simp only [Act.put, List.setIfInBounds_toArray, List.set_cons_zero, List.set_cons_succ, i64_w, i32_w]
                           rfl
                          refine pure_ (i := 1) (N := some 115) (v := ?_) (a' := ?_) #[true, true, false, false, false, false, false, false, false, false] rfl rfl (any_of HT_.out (by kernel_rfl)) (fun _ _ _ h => h) (Or.inl ⟨by rfl, ?_⟩) ?_ ?_
                          rotate_left
                          ·intro w'
                           go_simp
                           with_reducible rfl
                          rotate_left
                          ·simp only [Act.put, List.setIfInBounds_toArray, List.set_cons_zero, List.set_cons_succ, i64_w, i32_w]
                           rfl
                          refine pure_ (i := 3) (N := some 117) (v := ?_) (a' := ?_) #[true, true, false, true, false, false, false, false, false, false] rfl rfl (any_of HT_.out (by kernel_rfl)) (fun _ _ _ h => h) (Or.inl ⟨by rfl, ?_⟩) ?_ ?_
                          rotate_left
                          ·intro w'
                           go_simp
                           with_reducible rfl
                          rotate_left
                          ·simp only [Act.put, List.setIfInBounds_toArray, List.set_cons_zero, List.set_cons_succ, i64_w, i32_w]
                           rfl
                          refine pure_ (i := 4) (N := some 118) (v := ?_) (a' := ?_) #[true, true, false, true, true, false, false, false, false, false] rfl rfl (any_of HT_.out (by kernel_rfl)) (fun _ _ _ h => h) (Or.inl ⟨by rfl, ?_⟩) ?_ ?_
                          rotate_left
                          ·intro w'
                           go_simp
                           with_reducible rfl
                          rotate_left
                          ·simp only [Act.put, List.setIfInBounds_toArray, List.set_cons_zero, List.set_cons_succ, i64_w, i32_w]
                           rfl
                          refine take_ (i := 2) (N := some 116) (v := ?_) (a' := ?_) #[true, true, true, true, true, false, false, false, false, false] rfl rfl (take_ofW HT_.out HW_.out (by kernel_rfl)) (fun _ _ _ h => h) (Or.inl ⟨by rfl, ?_⟩) hHeld ?_ ?_
                          rotate_left
                          ·rintro w' ⟨s0, s1, s2, s3, s4⟩
                           go_simp
                           with_reducible rfl
                          rotate_left
                          ·simp only [Act.put, List.setIfInBounds_toArray, List.set_cons_zero, List.set_cons_succ, i64_w, i32_w]
                           rfl
                          refine take_ (i := 5) (N := some 119) (v := ?_) (a' := ?_) #[true, true, true, true, true, true, false, false, false, false] rfl rfl (take_ofW HT_.out HW_.out (by kernel_rfl)) (fun _ _ _ h => h) (Or.inl ⟨by rfl, ?_⟩) hHeld ?_ ?_
                          rotate_left
                          ·rintro w' ⟨s0, s1, s2, s3, s4⟩
                           go_simp
                           with_reducible rfl
                          rotate_left
                          ·simp only [Act.put, List.setIfInBounds_toArray, List.set_cons_zero, List.set_cons_succ, i64_w, i32_w]
                           rfl
                          refine pure_ (i := 6) (N := some 120) (v := ?_) (a' := ?_) #[true, true, true, true, true, true, true, false, false, false] rfl rfl (any_of HT_.out (by kernel_rfl)) (fun _ _ _ h => h) (Or.inl ⟨by rfl, ?_⟩) ?_ ?_
                          rotate_left
                          ·intro w'
                           go_simp
                           with_reducible rfl
                          rotate_left
                          ·simp only [Act.put, List.setIfInBounds_toArray, List.set_cons_zero, List.set_cons_succ, i64_w, i32_w]
                           rfl
                          refine take_ (i := 7) (N := some 121) (v := ?_) (a' := ?_) #[true, true, true, true, true, true, true, true, false, false] rfl rfl (take_ofW HT_.out HW_.out (by kernel_rfl)) (fun _ _ _ h => h) (Or.inl ⟨by rfl, ?_⟩) hHeld ?_ ?_
                          rotate_left
                          ·rintro w' ⟨s0, s1, s2, s3, s4⟩
                           go_simp
                           with_reducible rfl
                          rotate_left
                          ·simp only [Act.put, List.setIfInBounds_toArray, List.set_cons_zero, List.set_cons_succ, i64_w, i32_w]
                           rfl
                          refine pure_ (i := 8) (N := some 122) (v := ?_) (a' := ?_) #[true, true, true, true, true, true, true, true, true, false] rfl rfl (any_of HT_.out (by kernel_rfl)) (fun _ _ _ h => h) (Or.inl ⟨by rfl, ?_⟩) ?_ ?_
                          rotate_left
                          ·intro w'
                           go_simp
                           with_reducible rfl
                          rotate_left
                          ·simp only [Act.put, List.setIfInBounds_toArray, List.set_cons_zero, List.set_cons_succ, i64_w, i32_w]
                           rfl
                          refine last_ (i := 9) (N := none) #[true, true, true, true, true, true, true, true, true, true] rfl rfl (one_of HT_.out (by kernel_rfl)) (by decide) (fun K hK => ?_)
                          refine skip_ (w1 := ?_) (by rfl) rfl ?_ ?_
                          rotate_left
                          ·go_simp
                           rfl
                          refine hK.out _ _ ?_
                          clear hK K
                          refine done_ (done_of HT_.out (by kernel_rfl)) ?_
                          try go_wp2
                          go_roundg k4
                          case measure => have := HJ4.out; have := HK2.out; have := HK3.out; have := HK4.out; omega
                          case rel => exact ⟨(y156), (y168), (wrap64 (x14_4 + 1)), (by first | rfl | (simp; done) | (simp [*]; done)), H', ⟨by have := HJ4.out; have := HK2.out; have := HK3.out; have := HK4.out; omega⟩, ⟨by (with_reducible repeat (first | apply Ω1 | apply Ω2 | apply Ω3)); exact ΩE (Ω4 (p := ⟨go76, (((rd_T92 (rd_L5 l0 x11_3) x14_4).f1) : Int).toNat, none⟩) (ΩE HO_12.out (fun k_ hk => (⟨hk, fun e_ => hk (by rw [e_]; rfl)⟩ : _ ∧ k_ ≠ go76))) (fun _ hk => hk.2) (.int .i64 (rd y156 ((rd_T92 (rd_L5 l0 x11_3) x14_4).f0)))) (fun _ hk => hk.1)⟩, ⟨by (with_reducible repeat (first | apply Ω1 | apply Ω2 | apply Ω3)); exact HQ88.out⟩, ⟨HBu HB.out⟩⟩
                         ·rw [if_neg c75] at H
                          have c75b0 : decide ((rd x13_4 ((rd_T92 (rd_L5 l0 x11_3) x14_4).f1)) < (rd y156 ((rd_T92 (rd_L5 l0 x11_3) x14_4).f0))) = false := decide_eq_false c75
                          clear c75
                          have H' := Ω5 H
                          clear H
                          have p150 : 0 ≤ (x11_3 : Int) := of_decide_eq_true (by first | (with_reducible assumption) | assumption)
                          have q150 : x11_3 < (l0.length : Int) := of_decide_eq_true (by first | (with_reducible assumption) | assumption)
                          obtain ⟨ad150, A150_0, c150_0, e150, hx150_0, hl150_0, hi150_0⟩ := at_L5 HR0.out x11_3 p150 q150
                          cases e150
                          replace hx150_0 := (HB.out.cell (World.block_lt_of_cell? w _ hx150_0)).trans hx150_0
                          have HR150_0 := Ω5 hi150_0
                          have HC150_0 := Ω5 hl150_0
                          clear hi150_0 hl150_0
                          replace p150 := eq_true p150
                          replace q150 := eq_true q150
                          have p151 : 0 ≤ (x11_3 : Int) := of_decide_eq_true (by first | (with_reducible assumption) | assumption)
                          have q151 : x11_3 < (l0.length : Int) := of_decide_eq_true (by first | (with_reducible assumption) | assumption)
                          obtain ⟨ad151, A151_0, c151_0, e151, hx151_0, hl151_0, hi151_0⟩ := at_L5 HR0.out x11_3 p151 q151
                          obtain rfl : ad150 = ad151 := (by injection e151)
                          replace hx151_0 := (HB.out.cell (World.block_lt_of_cell? w _ hx151_0)).trans hx151_0
                          have HR151_0 := Ω5 hi151_0
                          have HC151_0 := Ω5 hl151_0
                          clear hi151_0 hl151_0
                          replace p151 := eq_true p151
                          replace q151 := eq_true q151
                          have ea_ := Option.some.inj (hx150_0.symm.trans hx151_0)
                          injection ea_ with ea_ en_ ec_
                          subst ea_
                          subst ec_
                          clear en_
                          have p152 : 0 ≤ (x14_4 : Int) := of_decide_eq_true (by first | (with_reducible assumption) | assumption)
                          have q152 : x14_4 < ((rd_L5 l0 x11_3).length : Int) := of_decide_eq_true (by first | (with_reducible assumption) | assumption)
                          obtain ⟨ad152, e152, hx152_0, hx152_1, hx152_2, hx152_3⟩ := at_T92 HR151_0.out x14_4 p152 q152
                          cases e152
                          replace hx152_0 := (HB.out.cell (World.block_lt_of_cell? w _ hx152_0)).trans hx152_0
                          replace hx152_1 := (HB.out.cell (World.block_lt_of_cell? w _ hx152_1)).trans hx152_1
                          replace hx152_2 := (HB.out.cell (World.block_lt_of_cell? w _ hx152_2)).trans hx152_2
                          replace hx152_3 := (HB.out.cell (World.block_lt_of_cell? w _ hx152_3)).trans hx152_3
                          replace p152 := eq_true p152
                          replace q152 := eq_true q152
                          try go_wp2_with (first | ((with_reducible refine gate_dst (N := 15) rfl ?_); (try (refine gate_guard (by rfl) ?_; dsimp only)); refine box_event ?hg (N := 15) ?hd (cs := #[.int .i64 0, .int .i64 0, .int .i64 0, .bool false]) (t := 92) ?hr ?_; (case hd => rfl); (case hg => rfl); (case hr => first | (go_simp; done) | (go_simp; rfl)); intro gb153 hg w89 hbox hb; have BK153 := Ω5 (hbox); have GW153 := Ω5 ((by rw [hg]; exact (below_size (Hu HB.out)) : w.heap.size ≤ gb153)); have GE153 := Ω5 ((by rw [hg]; exact (below_size (Hu HB.out)) : w.heap.size ≤ gb153)); replace HO_12 := Ω5 (Rb HO_12.out hb); replace HO_13 := Ω5 (Rb HO_13.out hb); replace HB := Ω5 (below_step (Hu HB.out) hb); clear hb hbox hg; have hcz90_0 : w89.cell? ⟨gb153, 0, none⟩ = some (.int .i64 0) := (ΩJ BK153.out 0).trans rfl; have hcz90_1 : w89.cell? ⟨gb153, 1, none⟩ = some (.int .i64 0) := (ΩJ BK153.out 1).trans rfl; have hcz90_2 : w89.cell? ⟨gb153, 2, none⟩ = some (.int .i64 0) := (ΩJ BK153.out 2).trans rfl; have hcz90_3 : w89.cell? ⟨gb153, 3, none⟩ = some (.bool false) := (ΩJ BK153.out 3).trans rfl; have hfz90_0 := ΩF BK153.out 0; have hfz90_1 := ΩF BK153.out 1; have hfz90_2 := ΩF BK153.out 2; have hfz90_3 := ΩF BK153.out 3))
                          have n0_ : Aside0 (Kd.R (Kd.int .i64) 3 ((((w89.setCell ⟨gb153, 0, none⟩ (.int .i64 ((rd_T92 (rd_L5 l0 x11_3) x14_4).f0))).setCell ⟨gb153, 1, none⟩ (.int .i64 ((rd_T92 (rd_L5 l0 x11_3) x14_4).f1))).setCell ⟨gb153, 2, none⟩ (.int .i64 ((rd_T92 (rd_L5 l0 x11_3) x14_4).f2))).setCell ⟨gb153, 3, none⟩ (.bool ((rd_T92 (rd_L5 l0 x11_3) x14_4).f3))) w.heap.size (fun k_ => some k_ ≠ (v148 : Value).ownBlock) v145 x12_4) := ⟨by (with_reducible repeat (first | apply Ω1 | apply Ω2 | apply Ω3)); exact ΩE (Ω4 (p := ⟨gb153, 3, none⟩) (Ω4 (p := ⟨gb153, 2, none⟩) (Ω4 (p := ⟨gb153, 1, none⟩) (Ω4 (p := ⟨gb153, 0, none⟩) (Kd.R_types HO_12.out BK153.out (by decide)) (fun _ hk => hk.2) (.int .i64 ((rd_T92 (rd_L5 l0 x11_3) x14_4).f0))) (fun _ hk => hk.2) (.int .i64 ((rd_T92 (rd_L5 l0 x11_3) x14_4).f1))) (fun _ hk => hk.2) (.int .i64 ((rd_T92 (rd_L5 l0 x11_3) x14_4).f2))) (fun _ hk => hk.2) (.bool ((rd_T92 (rd_L5 l0 x11_3) x14_4).f3))) (fun _ hk => hk.1)⟩
                          have n1_ : Aside0 (Kd.R (Kd.int .i64) 3 ((((w89.setCell ⟨gb153, 0, none⟩ (.int .i64 ((rd_T92 (rd_L5 l0 x11_3) x14_4).f0))).setCell ⟨gb153, 1, none⟩ (.int .i64 ((rd_T92 (rd_L5 l0 x11_3) x14_4).f1))).setCell ⟨gb153, 2, none⟩ (.int .i64 ((rd_T92 (rd_L5 l0 x11_3) x14_4).f2))).setCell ⟨gb153, 3, none⟩ (.bool ((rd_T92 (rd_L5 l0 x11_3) x14_4).f3))) w.heap.size (fun k_ => some k_ ≠ (v145 : Value).ownBlock) v148 x13_4) := ⟨by (with_reducible repeat (first | apply Ω1 | apply Ω2 | apply Ω3)); exact ΩE (Ω4 (p := ⟨gb153, 3, none⟩) (Ω4 (p := ⟨gb153, 2, none⟩) (Ω4 (p := ⟨gb153, 1, none⟩) (Ω4 (p := ⟨gb153, 0, none⟩) (Kd.R_types HO_13.out BK153.out (by decide)) (fun _ hk => hk.2) (.int .i64 ((rd_T92 (rd_L5 l0 x11_3) x14_4).f0))) (fun _ hk => hk.2) (.int .i64 ((rd_T92 (rd_L5 l0 x11_3) x14_4).f1))) (fun _ hk => hk.2) (.int .i64 ((rd_T92 (rd_L5 l0 x11_3) x14_4).f2))) (fun _ hk => hk.2) (.bool ((rd_T92 (rd_L5 l0 x11_3) x14_4).f3))) (fun _ hk => hk.1)⟩
                          have n2_ : Aside0 (((((w89.setCell ⟨gb153, 0, none⟩ (.int .i64 ((rd_T92 (rd_L5 l0 x11_3) x14_4).f0))).setCell ⟨gb153, 1, none⟩ (.int .i64 ((rd_T92 (rd_L5 l0 x11_3) x14_4).f1))).setCell ⟨gb153, 2, none⟩ (.int .i64 ((rd_T92 (rd_L5 l0 x11_3) x14_4).f2))).setCell ⟨gb153, 3, none⟩ (.bool ((rd_T92 (rd_L5 l0 x11_3) x14_4).f3))).heap[gb153]? = some (.cells #[.int .i64 ((rd_T92 (rd_L5 l0 x11_3) x14_4).f0), .int .i64 ((rd_T92 (rd_L5 l0 x11_3) x14_4).f1), .int .i64 ((rd_T92 (rd_L5 l0 x11_3) x14_4).f2), .bool ((rd_T92 (rd_L5 l0 x11_3) x14_4).f3)] 92 (0, 0))) := ⟨by (with_reducible repeat (first | refine ΩA ?_ _ | refine ΩC ?_ | refine ΩB ?_ _)); refine blk_put (cs := #[.int .i64 ((rd_T92 (rd_L5 l0 x11_3) x14_4).f0), .int .i64 ((rd_T92 (rd_L5 l0 x11_3) x14_4).f1), .int .i64 ((rd_T92 (rd_L5 l0 x11_3) x14_4).f2), .bool false]) ?_ 3 _ rfl; (with_reducible repeat (first | refine ΩA ?_ _ | refine ΩC ?_ | refine ΩB ?_ _)); refine blk_put (cs := #[.int .i64 ((rd_T92 (rd_L5 l0 x11_3) x14_4).f0), .int .i64 ((rd_T92 (rd_L5 l0 x11_3) x14_4).f1), .int .i64 0, .bool false]) ?_ 2 _ rfl; (with_reducible repeat (first | refine ΩA ?_ _ | refine ΩC ?_ | refine ΩB ?_ _)); refine blk_put (cs := #[.int .i64 ((rd_T92 (rd_L5 l0 x11_3) x14_4).f0), .int .i64 0, .int .i64 0, .bool false]) ?_ 1 _ rfl; (with_reducible repeat (first | refine ΩA ?_ _ | refine ΩC ?_ | refine ΩB ?_ _)); refine blk_put (cs := #[.int .i64 0, .int .i64 0, .int .i64 0, .bool false]) ?_ 0 _ rfl; (with_reducible repeat (first | refine ΩA ?_ _ | refine ΩC ?_ | refine ΩB ?_ _)); exact BK153.out⟩
                          have n3_ : Aside0 (Below w.heap.size w ((((w89.setCell ⟨gb153, 0, none⟩ (.int .i64 ((rd_T92 (rd_L5 l0 x11_3) x14_4).f0))).setCell ⟨gb153, 1, none⟩ (.int .i64 ((rd_T92 (rd_L5 l0 x11_3) x14_4).f1))).setCell ⟨gb153, 2, none⟩ (.int .i64 ((rd_T92 (rd_L5 l0 x11_3) x14_4).f2))).setCell ⟨gb153, 3, none⟩ (.bool ((rd_T92 (rd_L5 l0 x11_3) x14_4).f3)))) := ⟨HBu HB.out⟩
                          (try clear HO_12)
                          (try clear HO_13)
                          (try clear BK153)
                          (try clear HB)
                          generalize ((((w89.setCell ⟨gb153, 0, none⟩ (.int .i64 ((rd_T92 (rd_L5 l0 x11_3) x14_4).f0))).setCell ⟨gb153, 1, none⟩ (.int .i64 ((rd_T92 (rd_L5 l0 x11_3) x14_4).f1))).setCell ⟨gb153, 2, none⟩ (.int .i64 ((rd_T92 (rd_L5 l0 x11_3) x14_4).f2))).setCell ⟨gb153, 3, none⟩ (.bool ((rd_T92 (rd_L5 l0 x11_3) x14_4).f3))) = w91 at n0_ n1_ n2_ n3_ ⊢
                          have HO_12 := n0_
                          have HO_13 := n1_
                          have BK153 := n2_
                          have HB := n3_
                          clear n0_ n1_ n2_ n3_
                          replace HO_12 := Ω5 (Ω3 HO_12.out)
                          replace HO_13 := Ω5 (Ω3 HO_13.out)
                          replace BK153 := Ω5 (ΩC BK153.out)
                          replace HB := Ω5 (Ω8 HB.out)
                          obtain ⟨Ao93, co93, eo93⟩ := Kd.R_slice HO_12.out
                          (first | subst eo93 | (injection eo93 with f1_ f2_ f3_; have f4_ := f1_.symm; have f5_ := f3_.symm; clear f1_ f2_ f3_; subst f4_; subst f5_))
                          have p154 : 0 ≤ (((rd_T92 (rd_L5 l0 x11_3) x14_4).f0) : Int) := of_decide_eq_true (by first | (with_reducible assumption) | assumption)
                          have q154 : ((rd_T92 (rd_L5 l0 x11_3) x14_4).f0) < (x12_4.length : Int) := of_decide_eq_true (by first | (with_reducible assumption) | assumption)
                          obtain ⟨ad154, e154, hx154_0⟩ := Kd.at_int (Kd.R_reads' HO_12.out).2.2 ((rd_T92 (rd_L5 l0 x11_3) x14_4).f0) p154 q154
                          cases e154
                          replace p154 := eq_true p154
                          replace q154 := eq_true q154
                          have p155 : 0 ≤ (((rd_T92 (rd_L5 l0 x11_3) x14_4).f0) : Int) := of_decide_eq_true (by first | (with_reducible assumption) | assumption)
                          have q155 : ((rd_T92 (rd_L5 l0 x11_3) x14_4).f0) < (l3.length : Int) := of_decide_eq_true (by first | (with_reducible assumption) | assumption)
                          obtain ⟨ad155, e155, hx155_0⟩ := Kd.at_int HR3.out ((rd_T92 (rd_L5 l0 x11_3) x14_4).f0) p155 q155
                          have hw155_0 := hx155_0
                          cases e155
                          replace hx155_0 := (HB.out.cell (World.block_lt_of_cell? w _ hx155_0)).trans hx155_0
                          replace p155 := eq_true p155
                          replace q155 := eq_true q155
                          have p37 : 0 ≤ (((rd_T92 (rd_L5 l0 x11_3) x14_4).f0) : Int) := of_decide_eq_true (by first | (with_reducible assumption) | assumption)
                          have q37 : (((rd_T92 (rd_L5 l0 x11_3) x14_4).f0) : Int) < ((x12_4.length : Int) : Int) := of_decide_eq_true (by first | (with_reducible assumption) | assumption)
                          obtain ⟨go37, co37, eo37, gb37, gl37, cl37, HG37⟩ := Kd.R_form HO_12.out (by omega)
                          (first | cases eo37 | (injection eo37 with ea_ en_ ec_; (first | subst ea_ | (injection ea_ with ea_; subst ea_)); subst ec_; clear en_))
                          have GB37 := Ω5 gb37
                          have GG37 := Ω5 HG37
                          clear gb37 gl37 HG37
                          (first | simp only [add_plain] at hx154_0 | skip)
                          obtain ⟨hx37_0, hf37_0⟩ := Kd.R_celln 0 HO_12.out (((rd_T92 (rd_L5 l0 x11_3) x14_4).f0) : Int) p37 q37
                          replace p37 := eq_true p37
                          replace q37 := eq_true q37
                          have HP94 := Kd.R_putn HO_12.out (((rd_T92 (rd_L5 l0 x11_3) x14_4).f0) : Int) (wrap64 ((rd x12_4 ((rd_T92 (rd_L5 l0 x11_3) x14_4).f0)) + (rd l3 ((rd_T92 (rd_L5 l0 x11_3) x14_4).f0))))
                          rw [← Ny156.out] at HP94
                          have HQ94 := Ω5 HP94
                          clear HP94
                          refine start_ (n := 16) (S := fun w' => w'.cell? ⟨gb153, 0, none⟩ = some (.int .i64 ((rd_T92 (rd_L5 l0 x11_3) x14_4).f0)) ∧ w'.cell? ⟨gb153, 1, none⟩ = some (.int .i64 ((rd_T92 (rd_L5 l0 x11_3) x14_4).f1)) ∧ w'.cell? ⟨gb153, 2, none⟩ = some (.int .i64 ((rd_T92 (rd_L5 l0 x11_3) x14_4).f2)) ∧ w'.cell? ⟨gb153, 3, none⟩ = some (.bool ((rd_T92 (rd_L5 l0 x11_3) x14_4).f3)) ∧ w'.cell? ⟨go37, (((rd_T92 (rd_L5 l0 x11_3) x14_4).f0)).toNat, none⟩ = some (.int .i64 (rd x12_4 ((rd_T92 (rd_L5 l0 x11_3) x14_4).f0))) ∧ w'.cell? (ad155.add (((rd_T92 (rd_L5 l0 x11_3) x14_4).f0)).toNat) = some (.int .i64 (rd l3 ((rd_T92 (rd_L5 l0 x11_3) x14_4).f0)))) (ds := [15]) #[false, false, false, false, false, false, false, false, false, false, false, false, false, false, false, false] (by kernel_rfl) rfl rfl ⟨(ΩJ BK153.out 0).trans rfl, (ΩJ BK153.out 1).trans rfl, (ΩJ BK153.out 2).trans rfl, (ΩJ BK153.out 3).trans rfl, hx154_0, ((HB.out.cell (World.block_lt_of_cell? w _ hw155_0)).trans hw155_0)⟩ (fun hHeld => ?_); refine with_tabW spec_Finish.tab18 spec_Finish.bits18 (fun HT_ HW_ => ?_)
                          generalize w91.drew = w92 at HO_12 HO_13 BK153 HB GG37 HQ94 hf37_0 hx154_0 hx155_0 hx37_0 hHeld ⊢
                          refine pure_ (i := 0) (N := some 68) (v := ?_) (a' := ?_) #[true, false, false, false, false, false, false, false, false, false, false, false, false, false, false, false] rfl rfl (any_of HT_.out (by kernel_rfl)) (fun _ _ _ h => h) (Or.inl ⟨by rfl, ?_⟩) ?_ ?_
                          rotate_left
                          ·intro w'
                           go_simp
                           with_reducible rfl
                          rotate_left
                          ·simp only [Act.put, List.setIfInBounds_toArray, List.set_cons_zero, List.set_cons_succ, i64_w, i32_w]
                           rfl
                          refine pure_ (i := 1) (N := some 69) (v := ?_) (a' := ?_) #[true, true, false, false, false, false, false, false, false, false, false, false, false, false, false, false] rfl rfl (any_of HT_.out (by kernel_rfl)) (fun _ _ _ h => h) (Or.inl ⟨by rfl, ?_⟩) ?_ ?_
                          rotate_left
                          ·intro w'
                           go_simp
                           with_reducible rfl
                          rotate_left
                          ·simp only [Act.put, List.setIfInBounds_toArray, List.set_cons_zero, List.set_cons_succ, i64_w, i32_w]
                           rfl
                          refine pure_ (i := 3) (N := some 71) (v := ?_) (a' := ?_) #[true, true, false, true, false, false, false, false, false, false, false, false, false, false, false, false] rfl rfl (any_of HT_.out (by kernel_rfl)) (fun _ _ _ h => h) (Or.inl ⟨by rfl, ?_⟩) ?_ ?_
                          rotate_left
                          ·intro w'
                           go_simp
                           with_reducible rfl
                          rotate_left
                          ·simp only [Act.put, List.setIfInBounds_toArray, List.set_cons_zero, List.set_cons_succ, i64_w, i32_w]
                           rfl
                          refine pure_ (i := 4) (N := some 72) (v := ?_) (a' := ?_) #[true, true, false, true, true, false, false, false, false, false, false, false, false, false, false, false] rfl rfl (any_of HT_.out (by kernel_rfl)) (fun _ _ _ h => h) (Or.inl ⟨by rfl, ?_⟩) ?_ ?_
                          rotate_left
                          ·intro w'
                           go_simp
                           with_reducible rfl
                          rotate_left
                          ·simp only [Act.put, List.setIfInBounds_toArray, List.set_cons_zero, List.set_cons_succ, i64_w, i32_w]
                           rfl
                          refine pure_ (i := 8) (N := some 76) (v := ?_) (a' := ?_) #[true, true, false, true, true, false, false, false, true, false, false, false, false, false, false, false] rfl rfl (any_of HT_.out (by kernel_rfl)) (fun _ _ _ h => h) (Or.inl ⟨by rfl, ?_⟩) ?_ ?_
                          rotate_left
                          ·intro w'
                           go_simp
                           with_reducible rfl
                          rotate_left
                          ·simp only [Act.put, List.setIfInBounds_toArray, List.set_cons_zero, List.set_cons_succ, i64_w, i32_w]
                           rfl
                          refine pure_ (i := 9) (N := some 77) (v := ?_) (a' := ?_) #[true, true, false, true, true, false, false, false, true, true, false, false, false, false, false, false] rfl rfl (any_of HT_.out (by kernel_rfl)) (fun _ _ _ h => h) (Or.inl ⟨by rfl, ?_⟩) ?_ ?_
                          rotate_left
                          ·intro w'
                           go_simp
                           with_reducible rfl
                          rotate_left
                          ·simp only [Act.put, List.setIfInBounds_toArray, List.set_cons_zero, List.set_cons_succ, i64_w, i32_w]
                           rfl
                          refine take_ (i := 2) (N := some 70) (v := ?_) (a' := ?_) #[true, true, true, true, true, false, false, false, true, true, false, false, false, false, false, false] rfl rfl (take_ofW HT_.out HW_.out (by kernel_rfl)) (fun _ _ _ h => h) (Or.inl ⟨by rfl, ?_⟩) hHeld ?_ ?_
                          rotate_left
                          ·rintro w' ⟨s0, s1, s2, s3, s4, s5⟩
                           go_simp
                           with_reducible rfl
                          rotate_left
                          ·simp only [Act.put, List.setIfInBounds_toArray, List.set_cons_zero, List.set_cons_succ, i64_w, i32_w]
                           rfl
                          refine take_ (i := 5) (N := some 73) (v := ?_) (a' := ?_) #[true, true, true, true, true, true, false, false, true, true, false, false, false, false, false, false] rfl rfl (take_ofW HT_.out HW_.out (by kernel_rfl)) (fun _ _ _ h => h) (Or.inl ⟨by rfl, ?_⟩) hHeld ?_ ?_
                          rotate_left
                          ·rintro w' ⟨s0, s1, s2, s3, s4, s5⟩
                           go_simp
                           with_reducible rfl
                          rotate_left
                          ·simp only [Act.put, List.setIfInBounds_toArray, List.set_cons_zero, List.set_cons_succ, i64_w, i32_w]
                           rfl
                          refine pure_ (i := 6) (N := some 74) (v := ?_) (a' := ?_) #[true, true, true, true, true, true, true, false, true, true, false, false, false, false, false, false] rfl rfl (any_of HT_.out (by kernel_rfl)) (fun _ _ _ h => h) (Or.inl ⟨by rfl, ?_⟩) ?_ ?_
                          rotate_left
                          ·intro w'
                           go_simp
                           with_reducible rfl
                          rotate_left
                          ·simp only [Act.put, List.setIfInBounds_toArray, List.set_cons_zero, List.set_cons_succ, i64_w, i32_w]
                           rfl
                          refine take_ (i := 7) (N := some 75) (v := ?_) (a' := ?_) #[true, true, true, true, true, true, true, true, true, true, false, false, false, false, false, false] rfl rfl (take_ofW HT_.out HW_.out (by kernel_rfl)) (fun _ _ _ h => h) (Or.inl ⟨by rfl, ?_⟩) hHeld ?_ ?_
                          rotate_left
                          ·rintro w' ⟨s0, s1, s2, s3, s4, s5⟩
                           go_simp
                           with_reducible rfl
                          rotate_left
                          ·simp only [Act.put, List.setIfInBounds_toArray, List.set_cons_zero, List.set_cons_succ, i64_w, i32_w]
                           rfl
                          refine take_ (i := 10) (N := some 78) (v := ?_) (a' := ?_) #[true, true, true, true, true, true, true, true, true, true, true, false, false, false, false, false] rfl rfl (take_ofW HT_.out HW_.out (by kernel_rfl)) (fun _ _ _ h => h) (Or.inl ⟨by rfl, ?_⟩) hHeld ?_ ?_
                          rotate_left
                          ·rintro w' ⟨s0, s1, s2, s3, s4, s5⟩
                           go_simp
                           with_reducible rfl
                          rotate_left
                          ·simp only [Act.put, List.setIfInBounds_toArray, List.set_cons_zero, List.set_cons_succ, i64_w, i32_w]
                           rfl
                          refine pure_ (i := 11) (N := some 79) (v := ?_) (a' := ?_) #[true, true, true, true, true, true, true, true, true, true, true, true, false, false, false, false] rfl rfl (any_of HT_.out (by kernel_rfl)) (fun _ _ _ h => h) (Or.inl ⟨by rfl, ?_⟩) ?_ ?_
                          rotate_left
                          ·intro w'
                           go_simp
                           with_reducible rfl
                          rotate_left
                          ·simp only [Act.put, List.setIfInBounds_toArray, List.set_cons_zero, List.set_cons_succ, i64_w, i32_w]
                           rfl
                          refine take_ (i := 12) (N := some 80) (v := ?_) (a' := ?_) #[true, true, true, true, true, true, true, true, true, true, true, true, true, false, false, false] rfl rfl (take_ofW HT_.out HW_.out (by kernel_rfl)) (fun _ _ _ h => h) (Or.inl ⟨by rfl, ?_⟩) hHeld ?_ ?_
                          rotate_left
                          ·rintro w' ⟨s0, s1, s2, s3, s4, s5⟩
                           go_simp
                           with_reducible rfl
                          rotate_left
                          ·simp only [Act.put, List.setIfInBounds_toArray, List.set_cons_zero, List.set_cons_succ, i64_w, i32_w]
                           rfl
                          refine pure_ (i := 13) (N := some 81) (v := ?_) (a' := ?_) #[true, true, true, true, true, true, true, true, true, true, true, true, true, true, false, false] rfl rfl (any_of HT_.out (by kernel_rfl)) (fun _ _ _ h => h) (Or.inl ⟨by rfl, ?_⟩) ?_ ?_
                          rotate_left
                          ·intro w'
                           go_simp
                           with_reducible rfl
                          rotate_left
                          ·simp only [Act.put, List.setIfInBounds_toArray, List.set_cons_zero, List.set_cons_succ, i64_w, i32_w]
                           rfl
                          refine pure_ (i := 14) (N := some 82) (v := ?_) (a' := ?_) #[true, true, true, true, true, true, true, true, true, true, true, true, true, true, true, false] rfl rfl (any_of HT_.out (by kernel_rfl)) (fun _ _ _ h => h) (Or.inl ⟨by rfl, ?_⟩) ?_ ?_
                          rotate_left
                          ·intro w'
                           go_simp
                           with_reducible rfl
                          rotate_left
                          ·simp only [Act.put, List.setIfInBounds_toArray, List.set_cons_zero, List.set_cons_succ, i64_w, i32_w]
                           rfl
                          refine last_ (i := 15) (N := none) #[true, true, true, true, true, true, true, true, true, true, true, true, true, true, true, true] rfl rfl (one_of HT_.out (by kernel_rfl)) (by decide) (fun K hK => ?_)
                          refine skip_ (w1 := ?_) (by rfl) rfl ?_ ?_
                          rotate_left
                          ·go_simp
                           rfl
                          refine hK.out _ _ ?_
                          clear hK K
                          refine done_ (done_of HT_.out (by kernel_rfl)) ?_
                          try go_wp2
                          have n0_ : Aside0 (Kd.R (Kd.int .i64) 3 (w92.setCell ⟨go37, (((rd_T92 (rd_L5 l0 x11_3) x14_4).f0) : Int).toNat, none⟩ (.int .i64 (wrap64 ((rd x12_4 ((rd_T92 (rd_L5 l0 x11_3) x14_4).f0)) + (rd l3 ((rd_T92 (rd_L5 l0 x11_3) x14_4).f0)))))) w.heap.size (fun k_ => some k_ ≠ (v148 : Value).ownBlock) (.slice (some ⟨go37, 0, none⟩) x12_4.length co93) y156) := ⟨by (with_reducible repeat (first | apply Ω1 | apply Ω2 | apply Ω3)); exact HQ94.out⟩
                          have n1_ : Aside0 (Kd.R (Kd.int .i64) 3 (w92.setCell ⟨go37, (((rd_T92 (rd_L5 l0 x11_3) x14_4).f0) : Int).toNat, none⟩ (.int .i64 (wrap64 ((rd x12_4 ((rd_T92 (rd_L5 l0 x11_3) x14_4).f0)) + (rd l3 ((rd_T92 (rd_L5 l0 x11_3) x14_4).f0)))))) w.heap.size (fun k_ => some k_ ≠ (.slice (some ⟨go37, 0, none⟩) x12_4.length co93 : Value).ownBlock) v148 x13_4) := ⟨by (with_reducible repeat (first | apply Ω1 | apply Ω2 | apply Ω3)); exact ΩE (Ω4 (p := ⟨go37, (((rd_T92 (rd_L5 l0 x11_3) x14_4).f0) : Int).toNat, none⟩) (ΩE HO_13.out (fun k_ hk => (⟨hk, fun e_ => hk (by rw [e_]; rfl)⟩ : _ ∧ k_ ≠ go37))) (fun _ hk => hk.2) (.int .i64 (wrap64 ((rd x12_4 ((rd_T92 (rd_L5 l0 x11_3) x14_4).f0)) + (rd l3 ((rd_T92 (rd_L5 l0 x11_3) x14_4).f0)))))) (fun _ hk => hk.1)⟩
                          have n2_ : Aside0 ((w92.setCell ⟨go37, (((rd_T92 (rd_L5 l0 x11_3) x14_4).f0) : Int).toNat, none⟩ (.int .i64 (wrap64 ((rd x12_4 ((rd_T92 (rd_L5 l0 x11_3) x14_4).f0)) + (rd l3 ((rd_T92 (rd_L5 l0 x11_3) x14_4).f0)))))).heap[gb153]? = some (.cells #[.int .i64 ((rd_T92 (rd_L5 l0 x11_3) x14_4).f0), .int .i64 ((rd_T92 (rd_L5 l0 x11_3) x14_4).f1), .int .i64 ((rd_T92 (rd_L5 l0 x11_3) x14_4).f2), .bool ((rd_T92 (rd_L5 l0 x11_3) x14_4).f3)] 92 (0, 0))) := ⟨by (with_reducible repeat (first | refine ΩA ?_ _ | refine ΩC ?_ | refine ΩB ?_ _)); refine blk_far ?_ (by have h_ := Kd.R_ne HO_12.out BK153.out (by decide); intro e_; exact h_ (by rw [e_]; rfl)) _; (with_reducible repeat (first | refine ΩA ?_ _ | refine ΩC ?_ | refine ΩB ?_ _)); exact BK153.out⟩
                          have n3_ : Aside0 (Below w.heap.size w (w92.setCell ⟨go37, (((rd_T92 (rd_L5 l0 x11_3) x14_4).f0) : Int).toNat, none⟩ (.int .i64 (wrap64 ((rd x12_4 ((rd_T92 (rd_L5 l0 x11_3) x14_4).f0)) + (rd l3 ((rd_T92 (rd_L5 l0 x11_3) x14_4).f0))))))) := ⟨HBu HB.out⟩
                          (try clear HO_12)
                          (try clear HO_13)
                          (try clear BK153)
                          (try clear HB)
                          generalize (w92.setCell ⟨go37, (((rd_T92 (rd_L5 l0 x11_3) x14_4).f0) : Int).toNat, none⟩ (.int .i64 (wrap64 ((rd x12_4 ((rd_T92 (rd_L5 l0 x11_3) x14_4).f0)) + (rd l3 ((rd_T92 (rd_L5 l0 x11_3) x14_4).f0)))))) = w95 at n0_ n1_ n2_ n3_ ⊢
                          have HO_12 := n0_
                          have HO_13 := n1_
                          have BK153 := n2_
                          have HB := n3_
                          clear n0_ n1_ n2_ n3_
                          replace HO_12 := Ω5 (Ω3 HO_12.out)
                          replace HO_13 := Ω5 (Ω3 HO_13.out)
                          replace BK153 := Ω5 (ΩC BK153.out)
                          replace HB := Ω5 (Ω8 HB.out)
                          have p157 : 0 ≤ (((rd_T92 (rd_L5 l0 x11_3) x14_4).f0) : Int) := of_decide_eq_true (by first | (with_reducible assumption) | assumption)
                          have q157 : ((rd_T92 (rd_L5 l0 x11_3) x14_4).f0) < (y156.length : Int) := (by have h_ : (((rd_T92 (rd_L5 l0 x11_3) x14_4).f0) : Int) < ((x12_4.length : Int) : Int) := of_decide_eq_true (by first | (with_reducible assumption) | assumption); first | (have e_ := (Kd.R_reads' HO_12.out).1; omega) | simpa only [Ny156.out, List.length_set] using h_)
                          have ql157 : ((((rd_T92 (rd_L5 l0 x11_3) x14_4).f0) : Int) < ((x12_4.length : Int) : Int)) = True := eq_true (of_decide_eq_true (by first | (with_reducible assumption) | assumption))
                          obtain ⟨ad157, e157, hx157_0⟩ := Kd.at_int (Kd.R_reads' HO_12.out).2.2 ((rd_T92 (rd_L5 l0 x11_3) x14_4).f0) p157 q157
                          obtain rfl : (⟨go37, 0, none⟩ : Addr) = ad157 := (by injection e157)
                          (first | simp only [add_plain] at hx157_0 | simp only [add_at] at hx157_0 | simp only [Addr.add, Nat.zero_add] at hx157_0 | skip)
                          replace p157 := eq_true p157
                          replace q157 := eq_true q157
                          obtain ⟨Ao97, co97, eo97⟩ := Kd.R_slice HO_13.out
                          (first | subst eo97 | (injection eo97 with f1_ f2_ f3_; have f4_ := f1_.symm; have f5_ := f3_.symm; clear f1_ f2_ f3_; subst f4_; subst f5_))
                          have p158 : 0 ≤ (((rd_T92 (rd_L5 l0 x11_3) x14_4).f0) : Int) := of_decide_eq_true (by first | (with_reducible assumption) | assumption)
                          have q158 : ((rd_T92 (rd_L5 l0 x11_3) x14_4).f0) < (x13_4.length : Int) := of_decide_eq_true (by first | (with_reducible assumption) | assumption)
                          obtain ⟨ad158, e158, hx158_0⟩ := Kd.at_int (Kd.R_reads' HO_13.out).2.2 ((rd_T92 (rd_L5 l0 x11_3) x14_4).f0) p158 q158
                          cases e158
                          replace p158 := eq_true p158
                          replace q158 := eq_true q158
                          refine start_ (n := 11) (S := fun w' => w'.cell? ⟨gb153, 0, none⟩ = some (.int .i64 ((rd_T92 (rd_L5 l0 x11_3) x14_4).f0)) ∧ w'.cell? ⟨gb153, 1, none⟩ = some (.int .i64 ((rd_T92 (rd_L5 l0 x11_3) x14_4).f1)) ∧ w'.cell? ⟨gb153, 2, none⟩ = some (.int .i64 ((rd_T92 (rd_L5 l0 x11_3) x14_4).f2)) ∧ w'.cell? ⟨gb153, 3, none⟩ = some (.bool ((rd_T92 (rd_L5 l0 x11_3) x14_4).f3)) ∧ w'.cell? ⟨go37, (((rd_T92 (rd_L5 l0 x11_3) x14_4).f0)).toNat, none⟩ = some (.int .i64 (rd y156 ((rd_T92 (rd_L5 l0 x11_3) x14_4).f0))) ∧ w'.cell? (ad158.add (((rd_T92 (rd_L5 l0 x11_3) x14_4).f0)).toNat) = some (.int .i64 (rd x13_4 ((rd_T92 (rd_L5 l0 x11_3) x14_4).f0)))) (ds := []) #[false, false, false, false, false, false, false, false, false, false, false] (by kernel_rfl) rfl rfl ⟨(ΩJ BK153.out 0).trans rfl, (ΩJ BK153.out 1).trans rfl, (ΩJ BK153.out 2).trans rfl, (ΩJ BK153.out 3).trans rfl, hx157_0, hx158_0⟩ (fun hHeld => ?_); refine with_tabW spec_Finish.tab19 spec_Finish.bits19 (fun HT_ HW_ => ?_)
                          generalize w95.drew = w96 at HO_12 HO_13 BK153 HB HQ94 hx157_0 hx158_0 hHeld ⊢
                          refine pure_ (i := 0) (N := some 83) (v := ?_) (a' := ?_) #[true, false, false, false, false, false, false, false, false, false, false] rfl rfl (any_of HT_.out (by kernel_rfl)) (fun _ _ _ h => h) (Or.inl ⟨by rfl, ?_⟩) ?_ ?_
                          rotate_left
                          ·intro w'
                           go_simp
                           with_reducible rfl
                          rotate_left
                          ·simp only [Act.put, List.setIfInBounds_toArray, List.set_cons_zero, List.set_cons_succ, i64_w, i32_w]
                           rfl
                          refine pure_ (i := 1) (N := some 84) (v := ?_) (a' := ?_) #[true, true, false, false, false, false, false, false, false, false, false] rfl rfl (any_of HT_.out (by kernel_rfl)) (fun _ _ _ h => h) (Or.inl ⟨by rfl, ?_⟩) ?_ ?_
                          rotate_left
                          ·intro w'
                           go_simp
                           with_reducible rfl
                          rotate_left
                          ·simp only [Act.put, List.setIfInBounds_toArray, List.set_cons_zero, List.set_cons_succ, i64_w, i32_w]
                           rfl
                          refine pure_ (i := 5) (N := some 88) (v := ?_) (a' := ?_) #[true, true, false, false, false, true, false, false, false, false, false] rfl rfl (any_of HT_.out (by kernel_rfl)) (fun _ _ _ h => h) (Or.inl ⟨by rfl, ?_⟩) ?_ ?_
                          rotate_left
                          ·intro w'
                           go_simp
                           with_reducible rfl
                          rotate_left
                          ·simp only [Act.put, List.setIfInBounds_toArray, List.set_cons_zero, List.set_cons_succ, i64_w, i32_w]
                           rfl
                          refine pure_ (i := 6) (N := some 89) (v := ?_) (a' := ?_) #[true, true, false, false, false, true, true, false, false, false, false] rfl rfl (any_of HT_.out (by kernel_rfl)) (fun _ _ _ h => h) (Or.inl ⟨by rfl, ?_⟩) ?_ ?_
                          rotate_left
                          ·intro w'
                           go_simp
                           with_reducible rfl
                          rotate_left
                          ·simp only [Act.put, List.setIfInBounds_toArray, List.set_cons_zero, List.set_cons_succ, i64_w, i32_w]
                           rfl
                          refine take_ (i := 2) (N := some 85) (v := ?_) (a' := ?_) #[true, true, true, false, false, true, true, false, false, false, false] rfl rfl (take_ofW HT_.out HW_.out (by kernel_rfl)) (fun _ _ _ h => h) (Or.inl ⟨by rfl, ?_⟩) hHeld ?_ ?_
                          rotate_left
                          ·rintro w' ⟨s0, s1, s2, s3, s4, s5⟩
                           go_simp
                           with_reducible rfl
                          rotate_left
                          ·simp only [Act.put, List.setIfInBounds_toArray, List.set_cons_zero, List.set_cons_succ, i64_w, i32_w]
                           rfl
                          refine pure_ (i := 3) (N := some 86) (v := ?_) (a' := ?_) #[true, true, true, true, false, true, true, false, false, false, false] rfl rfl (any_of HT_.out (by kernel_rfl)) (fun _ _ _ h => h) (Or.inl ⟨by rfl, ?_⟩) ?_ ?_
                          rotate_left
                          ·intro w'
                           go_simp
                           with_reducible rfl
                          rotate_left
                          ·simp only [Act.put, List.setIfInBounds_toArray, List.set_cons_zero, List.set_cons_succ, i64_w, i32_w]
                           rfl
                          refine take_ (i := 4) (N := some 87) (v := ?_) (a' := ?_) #[true, true, true, true, true, true, true, false, false, false, false] rfl rfl (take_ofW HT_.out HW_.out (by kernel_rfl)) (fun _ _ _ h => h) (Or.inl ⟨by rfl, ?_⟩) hHeld ?_ ?_
                          rotate_left
                          ·rintro w' ⟨s0, s1, s2, s3, s4, s5⟩
                           go_simp
                           with_reducible rfl
                          rotate_left
                          ·simp only [Act.put, List.setIfInBounds_toArray, List.set_cons_zero, List.set_cons_succ, i64_w, i32_w]
                           rfl
                          refine take_ (i := 7) (N := some 90) (v := ?_) (a' := ?_) #[true, true, true, true, true, true, true, true, false, false, false] rfl rfl (take_ofW HT_.out HW_.out (by kernel_rfl)) (fun _ _ _ h => h) (Or.inl ⟨by rfl, ?_⟩) hHeld ?_ ?_
                          rotate_left
                          ·rintro w' ⟨s0, s1, s2, s3, s4, s5⟩
                           go_simp
                           with_reducible rfl
                          rotate_left
                          ·simp only [Act.put, List.setIfInBounds_toArray, List.set_cons_zero, List.set_cons_succ, i64_w, i32_w]
                           rfl
                          refine pure_ (i := 8) (N := some 91) (v := ?_) (a' := ?_) #[true, true, true, true, true, true, true, true, true, false, false] rfl rfl (any_of HT_.out (by kernel_rfl)) (fun _ _ _ h => h) (Or.inl ⟨by rfl, ?_⟩) ?_ ?_
                          rotate_left
                          ·intro w'
                           go_simp
                           with_reducible rfl
                          rotate_left
                          ·simp only [Act.put, List.setIfInBounds_toArray, List.set_cons_zero, List.set_cons_succ, i64_w, i32_w]
                           rfl
                          refine take_ (i := 9) (N := some 92) (v := ?_) (a' := ?_) #[true, true, true, true, true, true, true, true, true, true, false] rfl rfl (take_ofW HT_.out HW_.out (by kernel_rfl)) (fun _ _ _ h => h) (Or.inl ⟨by rfl, ?_⟩) hHeld ?_ ?_
                          rotate_left
                          ·rintro w' ⟨s0, s1, s2, s3, s4, s5⟩
                           go_simp
                           with_reducible rfl
                          rotate_left
                          ·simp only [Act.put, List.setIfInBounds_toArray, List.set_cons_zero, List.set_cons_succ, i64_w, i32_w]
                           rfl
                          refine pure_ (i := 10) (N := some 93) (v := ?_) (a' := ?_) #[true, true, true, true, true, true, true, true, true, true, true] rfl rfl (any_of HT_.out (by kernel_rfl)) (fun _ _ _ h => h) (Or.inl ⟨by rfl, ?_⟩) ?_ ?_
                          rotate_left
                          ·intro w'
                           go_simp
                           with_reducible rfl
                          rotate_left
                          ·simp only [Act.put, List.setIfInBounds_toArray, List.set_cons_zero, List.set_cons_succ, i64_w, i32_w]
                           rfl
                          refine done_ (done_of HT_.out (by kernel_rfl)) ?_
                          try go_wp2
                          replace HO_12 := Ω5 (Ω3 HO_12.out)
                          replace HO_13 := Ω5 (Ω3 HO_13.out)
                          replace BK153 := Ω5 (ΩC BK153.out)
                          replace HB := Ω5 (Ω8 HB.out)
                          have p165 : 0 ≤ (((rd_T92 (rd_L5 l0 x11_3) x14_4).f0) : Int) := of_decide_eq_true (by first | (with_reducible assumption) | assumption)
                          have q165 : ((rd_T92 (rd_L5 l0 x11_3) x14_4).f0) < (y156.length : Int) := (by have h_ : (((rd_T92 (rd_L5 l0 x11_3) x14_4).f0) : Int) < ((x12_4.length : Int) : Int) := of_decide_eq_true (by first | (with_reducible assumption) | assumption); first | (have e_ := (Kd.R_reads' HO_12.out).1; omega) | simpa only [Ny156.out, List.length_set] using h_)
                          have ql165 : ((((rd_T92 (rd_L5 l0 x11_3) x14_4).f0) : Int) < ((x12_4.length : Int) : Int)) = True := eq_true (of_decide_eq_true (by first | (with_reducible assumption) | assumption))
                          obtain ⟨ad165, e165, hx165_0⟩ := Kd.at_int (Kd.R_reads' HO_12.out).2.2 ((rd_T92 (rd_L5 l0 x11_3) x14_4).f0) p165 q165
                          obtain rfl : (⟨go37, 0, none⟩ : Addr) = ad165 := (by injection e165)
                          (first | simp only [add_plain] at hx165_0 | simp only [add_at] at hx165_0 | simp only [Addr.add, Nat.zero_add] at hx165_0 | skip)
                          replace p165 := eq_true p165
                          replace q165 := eq_true q165
                          have p166 : 0 ≤ (((rd_T92 (rd_L5 l0 x11_3) x14_4).f1) : Int) := of_decide_eq_true (by first | (with_reducible assumption) | assumption)
                          have q166 : ((rd_T92 (rd_L5 l0 x11_3) x14_4).f1) < (x13_4.length : Int) := of_decide_eq_true (by first | (with_reducible assumption) | assumption)
                          obtain ⟨ad166, e166, hx166_0⟩ := Kd.at_int (Kd.R_reads' HO_13.out).2.2 ((rd_T92 (rd_L5 l0 x11_3) x14_4).f1) p166 q166
                          obtain rfl : ad158 = ad166 := (by injection e166)
                          replace p166 := eq_true p166
                          replace q166 := eq_true q166
                          refine start_ (n := 11) (S := fun w' => w'.cell? ⟨gb153, 0, none⟩ = some (.int .i64 ((rd_T92 (rd_L5 l0 x11_3) x14_4).f0)) ∧ w'.cell? ⟨gb153, 1, none⟩ = some (.int .i64 ((rd_T92 (rd_L5 l0 x11_3) x14_4).f1)) ∧ w'.cell? ⟨gb153, 2, none⟩ = some (.int .i64 ((rd_T92 (rd_L5 l0 x11_3) x14_4).f2)) ∧ w'.cell? ⟨gb153, 3, none⟩ = some (.bool ((rd_T92 (rd_L5 l0 x11_3) x14_4).f3)) ∧ w'.cell? ⟨go37, (((rd_T92 (rd_L5 l0 x11_3) x14_4).f0)).toNat, none⟩ = some (.int .i64 (rd y156 ((rd_T92 (rd_L5 l0 x11_3) x14_4).f0))) ∧ w'.cell? (ad158.add (((rd_T92 (rd_L5 l0 x11_3) x14_4).f1)).toNat) = some (.int .i64 (rd x13_4 ((rd_T92 (rd_L5 l0 x11_3) x14_4).f1)))) (ds := []) #[false, false, false, false, false, false, false, false, false, false, false] (by kernel_rfl) rfl rfl ⟨(ΩJ BK153.out 0).trans rfl, (ΩJ BK153.out 1).trans rfl, (ΩJ BK153.out 2).trans rfl, (ΩJ BK153.out 3).trans rfl, hx165_0, hx166_0⟩ (fun hHeld => ?_); refine with_tabW spec_Finish.tab21 spec_Finish.bits21 (fun HT_ HW_ => ?_)
                          generalize w96.drew = w98 at HO_12 HO_13 BK153 HB hx165_0 hx166_0 hHeld ⊢
                          refine pure_ (i := 0) (N := some 103) (v := ?_) (a' := ?_) #[true, false, false, false, false, false, false, false, false, false, false] rfl rfl (any_of HT_.out (by kernel_rfl)) (fun _ _ _ h => h) (Or.inl ⟨by rfl, ?_⟩) ?_ ?_
                          rotate_left
                          ·intro w'
                           go_simp
                           with_reducible rfl
                          rotate_left
                          ·simp only [Act.put, List.setIfInBounds_toArray, List.set_cons_zero, List.set_cons_succ, i64_w, i32_w]
                           rfl
                          refine pure_ (i := 1) (N := some 104) (v := ?_) (a' := ?_) #[true, true, false, false, false, false, false, false, false, false, false] rfl rfl (any_of HT_.out (by kernel_rfl)) (fun _ _ _ h => h) (Or.inl ⟨by rfl, ?_⟩) ?_ ?_
                          rotate_left
                          ·intro w'
                           go_simp
                           with_reducible rfl
                          rotate_left
                          ·simp only [Act.put, List.setIfInBounds_toArray, List.set_cons_zero, List.set_cons_succ, i64_w, i32_w]
                           rfl
                          refine pure_ (i := 5) (N := some 108) (v := ?_) (a' := ?_) #[true, true, false, false, false, true, false, false, false, false, false] rfl rfl (any_of HT_.out (by kernel_rfl)) (fun _ _ _ h => h) (Or.inl ⟨by rfl, ?_⟩) ?_ ?_
                          rotate_left
                          ·intro w'
                           go_simp
                           with_reducible rfl
                          rotate_left
                          ·simp only [Act.put, List.setIfInBounds_toArray, List.set_cons_zero, List.set_cons_succ, i64_w, i32_w]
                           rfl
                          refine pure_ (i := 6) (N := some 109) (v := ?_) (a' := ?_) #[true, true, false, false, false, true, true, false, false, false, false] rfl rfl (any_of HT_.out (by kernel_rfl)) (fun _ _ _ h => h) (Or.inl ⟨by rfl, ?_⟩) ?_ ?_
                          rotate_left
                          ·intro w'
                           go_simp
                           with_reducible rfl
                          rotate_left
                          ·simp only [Act.put, List.setIfInBounds_toArray, List.set_cons_zero, List.set_cons_succ, i64_w, i32_w]
                           rfl
                          refine take_ (i := 2) (N := some 105) (v := ?_) (a' := ?_) #[true, true, true, false, false, true, true, false, false, false, false] rfl rfl (take_ofW HT_.out HW_.out (by kernel_rfl)) (fun _ _ _ h => h) (Or.inl ⟨by rfl, ?_⟩) hHeld ?_ ?_
                          rotate_left
                          ·rintro w' ⟨s0, s1, s2, s3, s4, s5⟩
                           go_simp
                           with_reducible rfl
                          rotate_left
                          ·simp only [Act.put, List.setIfInBounds_toArray, List.set_cons_zero, List.set_cons_succ, i64_w, i32_w]
                           rfl
                          refine pure_ (i := 3) (N := some 106) (v := ?_) (a' := ?_) #[true, true, true, true, false, true, true, false, false, false, false] rfl rfl (any_of HT_.out (by kernel_rfl)) (fun _ _ _ h => h) (Or.inl ⟨by rfl, ?_⟩) ?_ ?_
                          rotate_left
                          ·intro w'
                           go_simp
                           with_reducible rfl
                          rotate_left
                          ·simp only [Act.put, List.setIfInBounds_toArray, List.set_cons_zero, List.set_cons_succ, i64_w, i32_w]
                           rfl
                          refine take_ (i := 4) (N := some 107) (v := ?_) (a' := ?_) #[true, true, true, true, true, true, true, false, false, false, false] rfl rfl (take_ofW HT_.out HW_.out (by kernel_rfl)) (fun _ _ _ h => h) (Or.inl ⟨by rfl, ?_⟩) hHeld ?_ ?_
                          rotate_left
                          ·rintro w' ⟨s0, s1, s2, s3, s4, s5⟩
                           go_simp
                           with_reducible rfl
                          rotate_left
                          ·simp only [Act.put, List.setIfInBounds_toArray, List.set_cons_zero, List.set_cons_succ, i64_w, i32_w]
                           rfl
                          refine take_ (i := 7) (N := some 110) (v := ?_) (a' := ?_) #[true, true, true, true, true, true, true, true, false, false, false] rfl rfl (take_ofW HT_.out HW_.out (by kernel_rfl)) (fun _ _ _ h => h) (Or.inl ⟨by rfl, ?_⟩) hHeld ?_ ?_
                          rotate_left
                          ·rintro w' ⟨s0, s1, s2, s3, s4, s5⟩
                           go_simp
                           with_reducible rfl
                          rotate_left
                          ·simp only [Act.put, List.setIfInBounds_toArray, List.set_cons_zero, List.set_cons_succ, i64_w, i32_w]
                           rfl
                          refine pure_ (i := 8) (N := some 111) (v := ?_) (a' := ?_) #[true, true, true, true, true, true, true, true, true, false, false] rfl rfl (any_of HT_.out (by kernel_rfl)) (fun _ _ _ h => h) (Or.inl ⟨by rfl, ?_⟩) ?_ ?_
                          rotate_left
                          ·intro w'
                           go_simp
                           with_reducible rfl
                          rotate_left
                          ·simp only [Act.put, List.setIfInBounds_toArray, List.set_cons_zero, List.set_cons_succ, i64_w, i32_w]
                           rfl
                          refine take_ (i := 9) (N := some 112) (v := ?_) (a' := ?_) #[true, true, true, true, true, true, true, true, true, true, false] rfl rfl (take_ofW HT_.out HW_.out (by kernel_rfl)) (fun _ _ _ h => h) (Or.inl ⟨by rfl, ?_⟩) hHeld ?_ ?_
                          rotate_left
                          ·rintro w' ⟨s0, s1, s2, s3, s4, s5⟩
                           go_simp
                           with_reducible rfl
                          rotate_left
                          ·simp only [Act.put, List.setIfInBounds_toArray, List.set_cons_zero, List.set_cons_succ, i64_w, i32_w]
                           rfl
                          refine pure_ (i := 10) (N := some 113) (v := ?_) (a' := ?_) #[true, true, true, true, true, true, true, true, true, true, true] rfl rfl (any_of HT_.out (by kernel_rfl)) (fun _ _ _ h => h) (Or.inl ⟨by rfl, ?_⟩) ?_ ?_
                          rotate_left
                          ·intro w'
                           go_simp
                           with_reducible rfl
                          rotate_left
                          ·simp only [Act.put, List.setIfInBounds_toArray, List.set_cons_zero, List.set_cons_succ, i64_w, i32_w]
                           rfl
                          refine done_ (done_of HT_.out (by kernel_rfl)) ?_
                          try go_wp2
                          go_roundg k4
                          case measure => have := HJ4.out; have := HK2.out; have := HK3.out; have := HK4.out; omega
                          case rel => exact ⟨(y156), (x13_4), (wrap64 (x14_4 + 1)), (by first | rfl | (simp; done) | (simp [*]; done)), H', ⟨by have := HJ4.out; have := HK2.out; have := HK3.out; have := HK4.out; omega⟩, ⟨by (with_reducible repeat (first | apply Ω1 | apply Ω2 | apply Ω3)); exact HO_12.out⟩, ⟨by (with_reducible repeat (first | apply Ω1 | apply Ω2 | apply Ω3)); exact HO_13.out⟩, ⟨HBu HB.out⟩⟩
                        ·rw [if_neg c74] at H
                         exact absurd H (by simp)
                       ·rw [if_neg c73] at H
                        exact absurd H (by simp)
                     ·rw [if_neg c38] at H
                      exact absurd H (by simp)
                    ·rw [if_neg c36] at H
                     exact absurd H (by simp)
                   ·rw [if_neg c35] at H
                    exact absurd H (by simp)
                  ·rw [if_neg c34] at H
                   exact absurd H (by simp)
                 ·rw [if_neg c33] at H
                  exact absurd H (by simp)
                ·rw [if_neg c32] at H
                 have c32b0 : decide (x14_4 < ((rd_L5 l0 x11_3).length : Int)) = false := decide_eq_false c32
                 clear c32
                 have H' := Ω5 H
                 clear H
                 have p150 : 0 ≤ (x11_3 : Int) := of_decide_eq_true (by first | (with_reducible assumption) | assumption)
                 have q150 : x11_3 < (l0.length : Int) := of_decide_eq_true (by first | (with_reducible assumption) | assumption)
                 obtain ⟨ad150, A150_0, c150_0, e150, hx150_0, hl150_0, hi150_0⟩ := at_L5 HR0.out x11_3 p150 q150
                 cases e150
                 replace hx150_0 := (HB.out.cell (World.block_lt_of_cell? w _ hx150_0)).trans hx150_0
                 have HR150_0 := Ω5 hi150_0
                 have HC150_0 := Ω5 hl150_0
                 clear hi150_0 hl150_0
                 replace p150 := eq_true p150
                 replace q150 := eq_true q150
                 go_wp2
                 go_roundg k4
                 case measure => have := HJ4.out; have := HK2.out; have := HK3.out; have := HK4.out; omega
                 case rel => exact ⟨(x13_4), (wrap64 (x11_3 + 1)), (by first | rfl | (simp; done) | (simp [*]; done)), H', ⟨by have := HJ4.out; have := HK2.out; have := HK3.out; have := HK4.out; omega⟩, ⟨by (with_reducible repeat (first | apply Ω1 | apply Ω2 | apply Ω3)); exact ΩE HO_13.out (fun _ hk => trivial)⟩, ⟨HBu HB.out⟩⟩
               ·rw [if_neg c31] at H
                exact absurd H (by simp)
              ·rw [if_neg c30] at H
               exact absurd H (by simp)
           ·rw [if_neg c24] at H
            have c24b0 : decide (x11_3 < (l0.length : Int)) = false := decide_eq_false c24
            clear c24
            obtain rfl := Option.some.inj H
            go_wp2
            go_ret
            exact ⟨_, by first | rfl | (simp [errW_none, errW_some] <;> rfl) | (simp [*, errW_none, errW_some] <;> rfl), by (with_reducible repeat (first | apply Ω1 | apply Ω2 | apply Ω3)); exact HO_10.out, HBu HB.out⟩
        ·rw [if_neg c21] at H
         exact absurd H (by simp)
       ·rw [if_neg c20] at H
        exact absurd H (by simp)

end Go.Proofs.Ytpoblnigmfbnfac.PFnExactFinish
