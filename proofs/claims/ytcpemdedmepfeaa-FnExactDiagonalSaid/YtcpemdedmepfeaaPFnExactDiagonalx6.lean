-- Printed out of the translation, hand-written contracts beside it; checked by the kernel alone.
import Derived.Test.YtcpemdedmepfeaaPFnExactDiagonalx0
import Derived.Test.YtcpemdedmepfeaaPFnExactDiagonalx5
namespace Go.Proofs.Ytcpemdedmepfeaa.PFnExactDiagonal
open Go.RowKit Go.Proofs.YtcpemdedmepfeaaW.PrintWords Go.Proofs.YtcpemdedmepfeaaW.PrintLast Go.Proofs.YtcpemdedmepfeaaW.PrintMore
attribute [local go_sem] max2_int min2_int max_two min_two max_three min_three max_four min_four   -- for this text's walks alone
set_option linter.unusedVariables false
set_option linter.unusedSimpArgs false

/-! ### impl_Diagonal: function 19 -/
theorem setCell_drewN (w : World) (n : Nat) (a : Addr) (v : Value) : (w.drewN n).setCell a v = (w.setCell a v).drewN n := by
  induction n with
  | zero => rfl
  | succ n ih => rw [← World.drew_drewN, World.setCell_drew, ih, World.drew_drewN]
set_option maxHeartbeats 2000000 in
set_option maxRecDepth 100000 in
theorem set_calls (p0 g0 c0 n0 g1 c1 n1 : Nat) (o b axis n s x0 x1 v : Int) (w : World) (hv : v = if n = 1 then 0 else s)
    (hp : w.heap[p0]? = some (.cells #[.slice (some ⟨g0, 0, none⟩) n0 c0, .slice (some ⟨g1, 0, none⟩) n1 c1, .int .i64 o, .int .i64 b] 26 (0, 0)))
    (h0 : w.cell? ⟨g0, axis.toNat, none⟩ = some (.int .i64 x0)) (h1 : w.cell? ⟨g1, axis.toNat, none⟩ = some (.int .i64 x1)) (f0 : w.frozen? ⟨g0, axis.toNat, none⟩ = false) (f1 : w.frozen? ⟨g1, axis.toNat, none⟩ = false) (hne : g0 ≠ g1)
    (ha : 0 ≤ axis) (ha0 : axis < n0) (ha1 : axis < n1) :
    Calls Try.prog 42 #[.pointer (some ⟨p0, 0, none⟩), .int .i64 axis, .int .i64 n, .int .i64 s] w fun e w' => e = .returned (.tuple #[]) ∧ ∃ m, w' = ((w.setCell ⟨g0, axis.toNat, none⟩ (.int .i64 n)).setCell ⟨g1, axis.toNat, none⟩ (.int .i64 v)).drewN m := by
  have hc0 := (blk_cell hp 0).trans (show _ = some (Value.slice (some ⟨g0, 0, none⟩) n0 c0) from rfl)
  have hc1 := (blk_cell hp 1).trans (show _ = some (Value.slice (some ⟨g1, 0, none⟩) n1 c1) from rfl)
  have HP := Aside0.mk hp
  clear hp
  by_cases hn : n = 1
  · subst hn
    rw [if_pos rfl] at hv
    subst hv
    go_enter Try.func42, Try.ntmps42
    go_wp2
    go_region
    all_goals (go_end0; exact ⟨rfl, 1, rfl⟩)
  · rw [if_neg hn] at hv
    subst hv
    have hn1 : (n == 1) = false := beq_eq_false_iff_ne.mpr hn
    clear hn
    go_enter Try.func42, Try.ntmps42
    go_wp2
    go_region
    all_goals (go_end0; exact ⟨rfl, 1, rfl⟩)
theorem isAxis_calls (A : Option Addr) (n c : Nat) (axis : Int) (r : Bool) (w : World) (h : r = decide (0 ≤ axis ∧ axis < (n : Int))) : Calls Try.prog 41 #[.slice A n c, .int .i64 axis] w fun e w' => e = .returned (.bool r) ∧ w = w' := by
  by_cases h0 : 0 ≤ axis
  · have h0b : decide (0 ≤ axis) = true := decide_eq_true h0
    by_cases h1 : axis < (n : Int)
    · have h1b : decide (axis < (n : Int)) = true := decide_eq_true h1
      obtain rfl : r = true := by rw [h]; exact decide_eq_true ⟨h0, h1⟩
      clear h0 h1 h
      go_enter Try.func41, Try.ntmps41
      go_wp2
      go_ret
      exact ⟨rfl, rfl⟩
    · have h1b : decide (axis < (n : Int)) = false := decide_eq_false h1
      obtain rfl : r = false := by rw [h]; exact decide_eq_false (fun z => h1 z.2)
      clear h0 h1 h
      go_enter Try.func41, Try.ntmps41
      go_wp2
      go_ret
      exact ⟨rfl, rfl⟩
  · have h0b : decide (0 ≤ axis) = false := decide_eq_false h0
    obtain rfl : r = false := by rw [h]; exact decide_eq_false (fun z => h0 z.1)
    clear h0 h
    go_enter Try.func41, Try.ntmps41
    go_wp2
    go_ret
    exact ⟨rfl, rfl⟩
/-- What is told of a view in memory, behind a closure over it. -/
def ViewBy (w0 W : World) (base B gw : Nat) (rb : Bool) (m0 m1 : List Int) (m2 m3 : Int) (e : Ending) (W' : World) : Prop :=
  ∃ v0 v1 : Value, e = .returned (.bool rb) ∧ W'.heap[gw]? = some (.cells #[v0, v1, .int .i64 m2, .int .i64 m3] 26 (0, 0)) ∧ Kd.R (Kd.int .i64) 3 W' base (fun k_ => some k_ ≠ (v1 : Value).ownBlock) v0 m0 ∧ Kd.R (Kd.int .i64) 3 W' base (fun k_ => some k_ ≠ (v0 : Value).ownBlock) v1 m1 ∧
    (∀ (g : Nat) (cs : Array Value), g ≠ gw → W.heap[g]? = some (.cells cs 26 (0, 0)) → W'.heap[g]? = some (.cells cs 26 (0, 0))) ∧ W.heap.size ≤ W'.heap.size ∧ Below B w0 W'
/-- The view as it was. -/
theorem ViewBy.same {w0 W : World} {base B gw : Nat} {A0 A1 : Option Addr} {d0 d1 : Nat} {l0 l1 : List Int} {o b : Int} (m : Nat) (r : Bool)
    (hp : W.heap[gw]? = some (.cells #[.slice A0 l0.length d0, .slice A1 l1.length d1, .int .i64 o, .int .i64 b] 26 (0, 0)))
    (h0 : Kd.R (Kd.int .i64) 3 W base (fun k_ => some k_ ≠ (.slice A1 l1.length d1 : Value).ownBlock) (.slice A0 l0.length d0) l0) (h1 : Kd.R (Kd.int .i64) 3 W base (fun k_ => some k_ ≠ (.slice A0 l0.length d0 : Value).ownBlock) (.slice A1 l1.length d1) l1) (hB : Below B w0 W) :
    ViewBy w0 W base B gw r l0 l1 o b (.returned (.bool r)) (W.drewN m) :=
  ⟨_, _, rfl, blk_drewN hp m, Kd.R_drewN h0 m, Kd.R_drewN h1 m, fun g cs _ h => blk_drewN h m, Nat.le_refl _, pw_below_drewN hB m⟩
/-- A number of the view, one of each of its rows written. -/
theorem ViewBy.put {w0 W : World} {base B gw g0 g1 d0 d1 : Nat} {l0 l1 : List Int} {o b : Int} (m : Nat) (i x y z : Int) (h0i : 0 ≤ i)
    (hp : W.heap[gw]? = some (.cells #[.slice (some ⟨g0, 0, none⟩) l0.length d0, .slice (some ⟨g1, 0, none⟩) l1.length d1, .int .i64 o, .int .i64 b] 26 (0, 0)))
    (h0 : Kd.R (Kd.int .i64) 3 W base (fun k_ => some k_ ≠ (.slice (some ⟨g1, 0, none⟩) l1.length d1 : Value).ownBlock) (.slice (some ⟨g0, 0, none⟩) l0.length d0) l0) (h1 : Kd.R (Kd.int .i64) 3 W base (fun k_ => some k_ ≠ (.slice (some ⟨g0, 0, none⟩) l0.length d0 : Value).ownBlock) (.slice (some ⟨g1, 0, none⟩) l1.length d1) l1)
    (hB : Below B w0 W) (hbase : B ≤ base) (hgw : B ≤ gw) :
    ViewBy w0 W base B gw true (l0.set i.toNat x) (l1.set i.toNat y) z b (.returned (.bool true)) ((((W.setCell ⟨gw, 2, none⟩ (.int .i64 z)).setCell ⟨g0, i.toNat, none⟩ (.int .i64 x)).setCell ⟨g1, i.toNat, none⟩ (.int .i64 y)).drewN m) := by
  have e0 : g0 ≠ g1 := by
    have := h0.1 g0 rfl
    intro e
    exact this (by rw [e]; rfl)
  obtain ⟨cs0, hc0⟩ := Kd.R_typed h0 g0 rfl
  obtain ⟨cs1, hc1⟩ := Kd.R_typed h1 g1 rfl
  have n0 : gw ≠ g0 := blk_ne hp hc0 (by decide)
  have n1 : gw ≠ g1 := blk_ne hp hc1 (by decide)
  have b0 := Nat.le_trans hbase (Kd.R_base h0 g0 rfl)
  have b1 := Nat.le_trans hbase (Kd.R_base h1 g1 rfl)
  have s0 := Kd.R_set h0 hp (by decide) 2 (.int .i64 z)
  have s1 := Kd.R_set h1 hp (by decide) 2 (.int .i64 z)
  have p0 := (Kd.R_putg s0 i x).1
  have t1 := Kd.R_far (p := ⟨g0, i.toNat, none⟩) s1 (fun k hk e => hk (by rw [e]; rfl)) (.int .i64 x)
  have t0 := Kd.R_far (p := ⟨g1, i.toNat, none⟩) p0 (fun k hk e => hk (by rw [e]; rfl)) (.int .i64 y)
  have p1 := (Kd.R_putg t1 i y).1
  have e00 : (l0.set i.toNat x).length = l0.length := List.length_set ..
  have e11 : (l1.set i.toNat y).length = l1.length := List.length_set ..
  refine ⟨.slice (some ⟨g0, 0, none⟩) l0.length d0, .slice (some ⟨g1, 0, none⟩) l1.length d1, rfl, blk_drewN (blk_far (blk_far (blk_put hp 2 _ rfl) n0 _) n1 _) m, Kd.R_drewN t0 m, Kd.R_drewN p1 m, ?_, ?_, ?_⟩
  · intro g cs hg h
    have m0 : g ≠ g0 := blk_ne h hc0 (by decide)
    have m1 : g ≠ g1 := blk_ne h hc1 (by decide)
    exact blk_drewN (blk_far (blk_far (blk_far h hg _) m0 _) m1 _) m
  · simp
  · exact pw_below_drewN (((hB.setCell (p := ⟨gw, 2, none⟩) hgw _).setCell (p := ⟨g0, i.toNat, none⟩) b0 _).setCell (p := ⟨g1, i.toNat, none⟩) b1 _) m
set_option maxHeartbeats 2000000 in
set_option maxRecDepth 100000 in
theorem impl_turn.no (k g : Nat) (caps : Array Value) (A0 : Option Addr) (c0 : Nat) (l0 : List Int) (A1 : Option Addr) (c1 : Nat) (l1 : List Int) (o b : Int) (w : World)
    (hr0 : Kd.C (Kd.int .i64) w A0 l0.length l0) (hc0 : l0.length ≤ c0) (hr1 : Kd.C (Kd.int .i64) w A1 l1.length l1) (hc1 : l1.length ≤ c1) (hv : impl_ViewOk.f k l0 l1 o b = some false) :
    Calls Try.prog 39 #[.agg #[.slice A0 l0.length c0, .slice A1 l1.length c1, .int .i64 o, .int .i64 b], .func (.func g) #[] caps] w fun e w' => e = .returned (.agg #[.slice none 0 0, .slice none 0 0, .int .i64 0, .int .i64 0]) ∧ Below w.heap.size w w' := by
  have hu26 := Try.underlying26
  have HR0 := Aside0.mk hr0
  have HC0 := Aside0.mk hc0
  have HR1 := Aside0.mk hr1
  have HC1 := Aside0.mk hc1
  have HV := Aside0.mk hv
  clear hr0 hc0 hr1 hc1 hv
  have HB := Aside0.mk (Below.refl w.heap.size w)
  go_enter Try.func39, Try.ntmps39
  go_wp2_with (first | ((with_reducible refine gate_dst (N := 2) rfl ?_); refine box_event ?hg (N := 2) ?hd (cs := #[.slice A0 l0.length c0, .slice A1 l1.length c1, .int .i64 o, .int .i64 b]) (t := 26) ?hr ?_; (case hd => rfl); (case hg => rfl); (case hr => first | (go_simp; done) | (go_simp; rfl)); intro gv hg_gv w_gv hbox hb; have ng_ := Aside0.mk (by rw [hg_gv]; exact (below_size (by repeat (first | (with_reducible first | exact HB.out | apply below_alloc | apply pw_below_drewN | apply below_drew1) | exact HB.out))) : w.heap.size ≤ gv); have nb_ := Aside0.mk (below_step (by repeat (first | (with_reducible first | exact HB.out | apply below_alloc | apply pw_below_drewN | apply below_drew1) | exact HB.out)) hb); clear HB ; have HB := nb_; clear nb_  hb; have BKv := Aside0.mk hbox; have GBKv := ng_; clear hbox ng_ hg_gv) | ((with_reducible refine gate_dst (N := 4) rfl ?_); refine box_event ?hg (N := 4) ?hd (cs := #[.slice none 0 0, .slice none 0 0, .int .i64 0, .int .i64 0]) (t := 26) ?hr ?_; (case hd => rfl); (case hg => rfl); (case hr => first | (go_simp; done) | (go_simp; rfl)); intro gr hg_gr w_gr hbox hb; have ng_ := Aside0.mk (by rw [hg_gr]; exact (below_size (by repeat (first | (with_reducible first | exact HB.out | apply below_alloc | apply pw_below_drewN | apply below_drew1) | exact HB.out))) : w.heap.size ≤ gr); have nb_ := Aside0.mk (below_step (by repeat (first | (with_reducible first | exact HB.out | apply below_alloc | apply pw_below_drewN | apply below_drew1) | exact HB.out)) hb); have n0_ := Aside0.mk (blk_below (g := gv) (o := .cells #[.slice A0 l0.length c0, .slice A1 l1.length c1, .int .i64 o, .int .i64 b] 26 (0, 0)) (by (with_reducible repeat (first | refine blk_drewN ?_ _ | refine blk_drew ?_ | refine blk_alloc ?_ _)); exact BKv.out) hb); clear HB BKv; have HB := nb_; have BKv := n0_; clear nb_ n0_ hb; have BKr := Aside0.mk hbox; have GBKr := ng_; clear hbox ng_ hg_gr; have hcv0 : w_gr.cell? ⟨gv, 0, none⟩ = some (.slice A0 l0.length c0) := (blk_cell BKv.out 0).trans rfl; have hcv1 : w_gr.cell? ⟨gv, 1, none⟩ = some (.slice A1 l1.length c1) := (blk_cell BKv.out 1).trans rfl; have hcv2 : w_gr.cell? ⟨gv, 2, none⟩ = some (.int .i64 o) := (blk_cell BKv.out 2).trans rfl; have hcv3 : w_gr.cell? ⟨gv, 3, none⟩ = some (.int .i64 b) := (blk_cell BKv.out 3).trans rfl) | (go_at_call 79; refine (impl_ViewOk.calls k _ _ l0 _ _ l1 o b false _ ?s1 ?s2 ?s3 ?s4 HV.out).mono ?_; (case s1 => repeat (first | exact (Kd.C_below HR0.out HB.out) | (with_reducible refine Kd.C_alloc ?_ _) | (with_reducible refine Kd.C_drewN ?_ _) | (with_reducible refine Kd.C_drew ?_))); (case s2 => exact HC0.out); (case s3 => repeat (first | exact (Kd.C_below HR1.out HB.out) | (with_reducible refine Kd.C_alloc ?_ _) | (with_reducible refine Kd.C_drewN ?_ _) | (with_reducible refine Kd.C_drew ?_))); (case s4 => exact HC1.out); rintro e w1 ⟨rfl, hb⟩; have nb_ := Aside0.mk (below_step (by repeat (first | (with_reducible first | exact HB.out | apply below_alloc | apply pw_below_drewN | apply below_drew1) | exact HB.out)) hb); have n0_ := Aside0.mk (blk_below (g := gv) (o := .cells #[.slice A0 l0.length c0, .slice A1 l1.length c1, .int .i64 o, .int .i64 b] 26 (0, 0)) (by (with_reducible repeat (first | refine blk_drewN ?_ _ | refine blk_drew ?_ | refine blk_alloc ?_ _)); exact BKv.out) hb); have n1_ := Aside0.mk (blk_below (g := gr) (o := .cells #[.slice none 0 0, .slice none 0 0, .int .i64 0, .int .i64 0] 26 (0, 0)) (by (with_reducible repeat (first | refine blk_drewN ?_ _ | refine blk_drew ?_ | refine blk_alloc ?_ _)); exact BKr.out) hb); clear HB BKv BKr; have HB := nb_; have BKv := n0_; have BKr := n1_; clear nb_ n0_ n1_ hb; clear hcv0 hcv1 hcv2 hcv3; have hcr0 : w1.cell? ⟨gr, 0, none⟩ = some (.slice none 0 0) := (blk_cell BKr.out 0).trans rfl; have hcr1 : w1.cell? ⟨gr, 1, none⟩ = some (.slice none 0 0) := (blk_cell BKr.out 1).trans rfl; have hcr2 : w1.cell? ⟨gr, 2, none⟩ = some (.int .i64 0) := (blk_cell BKr.out 2).trans rfl; have hcr3 : w1.cell? ⟨gr, 3, none⟩ = some (.int .i64 0) := (blk_cell BKr.out 3).trans rfl; have hcrf0 := blk_frozen BKr.out 0; have hcrf1 := blk_frozen BKr.out 1; have hcrf2 := blk_frozen BKr.out 2; have hcrf3 := blk_frozen BKr.out 3))
  refine bodyPost_ret (results_cell_row rfl _ _ gr 26 #[.slice none 0 0, .slice none 0 0, .int .i64 0, .int .i64 0] (0, 0) _ rfl (by (with_reducible repeat (first | refine blk_drewN ?_ _ | refine blk_drew ?_)); refine blk_put (cs := #[.slice none 0 0, .slice none 0 0, .int .i64 0, .int .i64 0]) ?_ 3 _ rfl; (with_reducible repeat (first | refine blk_drewN ?_ _ | refine blk_drew ?_)); refine blk_put (cs := #[.slice none 0 0, .slice none 0 0, .int .i64 0, .int .i64 0]) ?_ 2 _ rfl; (with_reducible repeat (first | refine blk_drewN ?_ _ | refine blk_drew ?_)); refine blk_put (cs := #[.slice none 0 0, .slice none 0 0, .int .i64 0, .int .i64 0]) ?_ 1 _ rfl; (with_reducible repeat (first | refine blk_drewN ?_ _ | refine blk_drew ?_)); refine blk_put (cs := #[.slice none 0 0, .slice none 0 0, .int .i64 0, .int .i64 0]) ?_ 0 _ rfl; (with_reducible repeat (first | refine blk_drewN ?_ _ | refine blk_drew ?_)); exact BKr.out) Try.underlying26 rfl (by kernel_rfl)) rfl ?_
  exact ⟨rfl, by repeat (first | (with_reducible first | exact HB.out | apply below_alloc | apply pw_below_drewN | apply below_drew1 | refine below_set ?_ GBKr.out) | exact HB.out)⟩
set_option maxHeartbeats 8000000 in
set_option maxRecDepth 100000 in
theorem impl_turn.go (k B : Nat) (q1 q2 : Nat) (A0 : Option Addr) (c0 : Nat) (l0 : List Int) (A1 : Option Addr) (c1 : Nat) (l1 : List Int) (o b : Int) (rb t2 : Bool) (m0 m1 : List Int) (m2 m3 : Int) (r0 r1 : List Int) (r2 r3 : Int) (w : World) (hB : B ≤ w.heap.size)
    (hr0 : Kd.C (Kd.int .i64) w A0 l0.length l0) (hc0 : l0.length ≤ c0) (hr1 : Kd.C (Kd.int .i64) w A1 l1.length l1) (hc1 : l1.length ≤ c1)
    (hv : impl_ViewOk.f k l0 l1 o b = some true) (hl0 : slices_Clone_int_int.f l0 = some l0) (hl1 : slices_Clone_int_int.f l1 = some l1)
    (hby : ∀ (W : World) (gw : Nat) (B0 B1 : Option Addr) (d0 d1 : Nat), Below w.heap.size w W → w.heap.size ≤ gw → W.heap[gw]? = some (.cells #[.slice B0 l0.length d0, .slice B1 l1.length d1, .int .i64 o, .int .i64 b] 26 (0, 0)) →
      Kd.R (Kd.int .i64) 3 W w.heap.size (fun k_ => some k_ ≠ (.slice B1 l1.length d1 : Value).ownBlock) (.slice B0 l0.length d0) l0 → Kd.R (Kd.int .i64) 3 W w.heap.size (fun k_ => some k_ ≠ (.slice B0 l0.length d0 : Value).ownBlock) (.slice B1 l1.length d1) l1 →
      Calls Try.prog 48 #[.pointer (some ⟨gw, 0, none⟩), .pointer (some ⟨q1, 0, none⟩), .pointer (some ⟨q2, 0, none⟩)] W fun e W' => ∃ v0 v1 : Value, e = .returned (.bool rb) ∧ W'.heap[gw]? = some (.cells #[v0, v1, .int .i64 m2, .int .i64 m3] 26 (0, 0)) ∧ Kd.R (Kd.int .i64) 3 W' w.heap.size (fun k_ => some k_ ≠ (v1 : Value).ownBlock) v0 m0 ∧ Kd.R (Kd.int .i64) 3 W' w.heap.size (fun k_ => some k_ ≠ (v0 : Value).ownBlock) v1 m1 ∧
        (∀ (g : Nat) (cs : Array Value), g ≠ gw → W.heap[g]? = some (.cells cs 26 (0, 0)) → W'.heap[g]? = some (.cells cs 26 (0, 0))) ∧ W.heap.size ≤ W'.heap.size ∧ Below B w W')
    (hv2 : rb = true → impl_ViewOk.f k m0 m1 m2 m3 = some t2) (hres : (if rb = true then (if t2 = true then (m0, m1, m2, m3) else ([], [], 0, 0)) else ([], [], 0, 0)) = (r0, r1, r2, r3)) :
    Calls Try.prog 39 #[.agg #[.slice A0 l0.length c0, .slice A1 l1.length c1, .int .i64 o, .int .i64 b], .func (.func 48) #[] #[.pointer (some ⟨q1, 0, none⟩), .pointer (some ⟨q2, 0, none⟩)]] w fun e w' => ∃ v0_ v1_ : Value, e = .returned (.agg #[v0_, v1_, .int .i64 r2, .int .i64 r3]) ∧ Kd.R (Kd.int .i64) 3 w' w.heap.size (fun k_ => some k_ ≠ (v1_ : Value).ownBlock) v0_ r0 ∧ Kd.R (Kd.int .i64) 3 w' w.heap.size (fun k_ => some k_ ≠ (v0_ : Value).ownBlock) v1_ r1 ∧ Below B w w' ∧ (∀ (g : Nat) (cs : Array Value), w.heap[g]? = some (.cells cs 26 (0, 0)) → w'.heap[g]? = some (.cells cs 26 (0, 0))) := by
  have hu26 := Try.underlying26
  have HR0 := Aside0.mk hr0
  have HC0 := Aside0.mk hc0
  have HR1 := Aside0.mk hr1
  have HC1 := Aside0.mk hc1
  have HV := Aside0.mk hv
  have HL0 := Aside0.mk hl0
  have HL1 := Aside0.mk hl1
  have HBY := Aside0.mk hby
  have HBS := Aside0.mk hB
  clear hr0 hc0 hr1 hc1 hv hl0 hl1 hby hB
  have HB := Aside0.mk (Below.refl w.heap.size w)
  go_enter Try.func39, Try.ntmps39
  go_upto_region 3 with (first | ((with_reducible refine gate_dst (N := 2) rfl ?_); refine box_event ?hg (N := 2) ?hd (cs := #[.slice A0 l0.length c0, .slice A1 l1.length c1, .int .i64 o, .int .i64 b]) (t := 26) ?hr ?_; (case hd => rfl); (case hg => rfl); (case hr => first | (go_simp; done) | (go_simp; rfl)); intro gv hg_gv w_gv hbox hb; have ng_ := Aside0.mk (by rw [hg_gv]; exact (below_size (by repeat (first | (with_reducible first | exact HB.out | apply below_alloc | apply pw_below_drewN | apply below_drew1) | exact HB.out))) : w.heap.size ≤ gv); have nb_ := Aside0.mk (below_step (by repeat (first | (with_reducible first | exact HB.out | apply below_alloc | apply pw_below_drewN | apply below_drew1) | exact HB.out)) hb); clear HB ; have HB := nb_; clear nb_  hb; have BKv := Aside0.mk hbox; have GBKv := ng_; clear hbox ng_ hg_gv) | ((with_reducible refine gate_dst (N := 4) rfl ?_); refine box_event ?hg (N := 4) ?hd (cs := #[.slice none 0 0, .slice none 0 0, .int .i64 0, .int .i64 0]) (t := 26) ?hr ?_; (case hd => rfl); (case hg => rfl); (case hr => first | (go_simp; done) | (go_simp; rfl)); intro gr hg_gr w_gr hbox hb; have ng_ := Aside0.mk (by rw [hg_gr]; exact (below_size (by repeat (first | (with_reducible first | exact HB.out | apply below_alloc | apply pw_below_drewN | apply below_drew1) | exact HB.out))) : w.heap.size ≤ gr); have nb_ := Aside0.mk (below_step (by repeat (first | (with_reducible first | exact HB.out | apply below_alloc | apply pw_below_drewN | apply below_drew1) | exact HB.out)) hb); have n0_ := Aside0.mk (blk_below (g := gv) (o := .cells #[.slice A0 l0.length c0, .slice A1 l1.length c1, .int .i64 o, .int .i64 b] 26 (0, 0)) (by (with_reducible repeat (first | refine blk_drewN ?_ _ | refine blk_drew ?_ | refine blk_alloc ?_ _)); exact BKv.out) hb); clear HB BKv; have HB := nb_; have BKv := n0_; clear nb_ n0_ hb; have BKr := Aside0.mk hbox; have GBKr := ng_; clear hbox ng_ hg_gr; have hcv0 : w_gr.cell? ⟨gv, 0, none⟩ = some (.slice A0 l0.length c0) := (blk_cell BKv.out 0).trans rfl; have hcv1 : w_gr.cell? ⟨gv, 1, none⟩ = some (.slice A1 l1.length c1) := (blk_cell BKv.out 1).trans rfl; have hcv2 : w_gr.cell? ⟨gv, 2, none⟩ = some (.int .i64 o) := (blk_cell BKv.out 2).trans rfl; have hcv3 : w_gr.cell? ⟨gv, 3, none⟩ = some (.int .i64 b) := (blk_cell BKv.out 3).trans rfl) | (go_at_call 79; refine (impl_ViewOk.calls k _ _ l0 _ _ l1 o b true _ ?s1 ?s2 ?s3 ?s4 HV.out).mono ?_; (case s1 => repeat (first | exact (Kd.C_below HR0.out HB.out) | (with_reducible refine Kd.C_alloc ?_ _) | (with_reducible refine Kd.C_drewN ?_ _) | (with_reducible refine Kd.C_drew ?_))); (case s2 => exact HC0.out); (case s3 => repeat (first | exact (Kd.C_below HR1.out HB.out) | (with_reducible refine Kd.C_alloc ?_ _) | (with_reducible refine Kd.C_drewN ?_ _) | (with_reducible refine Kd.C_drew ?_))); (case s4 => exact HC1.out); rintro e w1 ⟨rfl, hb⟩; have nb_ := Aside0.mk (below_step (by repeat (first | (with_reducible first | exact HB.out | apply below_alloc | apply pw_below_drewN | apply below_drew1) | exact HB.out)) hb); have n0_ := Aside0.mk (blk_below (g := gv) (o := .cells #[.slice A0 l0.length c0, .slice A1 l1.length c1, .int .i64 o, .int .i64 b] 26 (0, 0)) (by (with_reducible repeat (first | refine blk_drewN ?_ _ | refine blk_drew ?_ | refine blk_alloc ?_ _)); exact BKv.out) hb); have n1_ := Aside0.mk (blk_below (g := gr) (o := .cells #[.slice none 0 0, .slice none 0 0, .int .i64 0, .int .i64 0] 26 (0, 0)) (by (with_reducible repeat (first | refine blk_drewN ?_ _ | refine blk_drew ?_ | refine blk_alloc ?_ _)); exact BKr.out) hb); clear HB BKv BKr; have HB := nb_; have BKv := n0_; have BKr := n1_; clear nb_ n0_ n1_ hb; clear hcv0 hcv1 hcv2 hcv3; have hcv0 : w1.cell? ⟨gv, 0, none⟩ = some (.slice A0 l0.length c0) := (blk_cell BKv.out 0).trans rfl; have hcv1 : w1.cell? ⟨gv, 1, none⟩ = some (.slice A1 l1.length c1) := (blk_cell BKv.out 1).trans rfl; have hcv2 : w1.cell? ⟨gv, 2, none⟩ = some (.int .i64 o) := (blk_cell BKv.out 2).trans rfl; have hcv3 : w1.cell? ⟨gv, 3, none⟩ = some (.int .i64 b) := (blk_cell BKv.out 3).trans rfl))
  (try simp only [Act.put, List.setIfInBounds_toArray, List.set_cons_zero, List.set_cons_succ])
  go_cut [5] (fun v5 wc => ∃ (gw : Nat) (B0 B1 : Option Addr) (d0 d1 : Nat), v5 = .pointer (some ⟨gw, 0, none⟩) ∧ Aside0 (wc.heap[gw]? = some (.cells #[.slice B0 l0.length d0, .slice B1 l1.length d1, .int .i64 o, .int .i64 b] 26 (0, 0))) ∧ Aside0 (Kd.R (Kd.int .i64) 3 wc w.heap.size (fun k_ => some k_ ≠ (.slice B1 l1.length d1 : Value).ownBlock) (.slice B0 l0.length d0) l0) ∧ Aside0 (Kd.R (Kd.int .i64) 3 wc w.heap.size (fun k_ => some k_ ≠ (.slice B0 l0.length d0 : Value).ownBlock) (.slice B1 l1.length d1) l1) ∧ Aside0 (w.heap.size ≤ gw) ∧ Aside0 (gw ≠ gr) ∧ Aside0 (wc.heap[gr]? = some (.cells #[.slice none 0 0, .slice none 0 0, .int .i64 0, .int .i64 0] 26 (0, 0))) ∧ Aside0 (Below w.heap.size w wc))
  case first =>
    go_region_held3 (fun w' => w'.cell? ⟨gv, 0, none⟩ = some (.slice A0 l0.length c0) ∧ w'.cell? ⟨gv, 1, none⟩ = some (.slice A1 l1.length c1) ∧ w'.cell? ⟨gv, 2, none⟩ = some (.int .i64 o) ∧ w'.cell? ⟨gv, 3, none⟩ = some (.int .i64 b)) (first | (exact ⟨(blk_cell (by (with_reducible repeat (first | refine blk_drewN ?_ _ | refine blk_drew ?_ | refine blk_alloc ?_ _)); exact BKv.out) 0).trans rfl, (blk_cell (by (with_reducible repeat (first | refine blk_drewN ?_ _ | refine blk_drew ?_ | refine blk_alloc ?_ _)); exact BKv.out) 1).trans rfl, (blk_cell (by (with_reducible repeat (first | refine blk_drewN ?_ _ | refine blk_drew ?_ | refine blk_alloc ?_ _)); exact BKv.out) 2).trans rfl, (blk_cell (by (with_reducible repeat (first | refine blk_drewN ?_ _ | refine blk_drew ?_ | refine blk_alloc ?_ _)); exact BKv.out) 3).trans rfl⟩) | (exact ⟨(blk_cell (blk_far (p := ⟨_, 3, none⟩) (blk_far (p := ⟨_, 2, none⟩) (blk_far (p := ⟨_, 1, none⟩) (blk_far (p := ⟨_, 0, none⟩) BKv.out HZN.out.1 _) HZN.out.1 _) HZN.out.1 _) HZN.out.1 _) 0).trans rfl, (blk_cell (blk_far (p := ⟨_, 3, none⟩) (blk_far (p := ⟨_, 2, none⟩) (blk_far (p := ⟨_, 1, none⟩) (blk_far (p := ⟨_, 0, none⟩) BKv.out HZN.out.1 _) HZN.out.1 _) HZN.out.1 _) HZN.out.1 _) 1).trans rfl, (blk_cell (blk_far (p := ⟨_, 3, none⟩) (blk_far (p := ⟨_, 2, none⟩) (blk_far (p := ⟨_, 1, none⟩) (blk_far (p := ⟨_, 0, none⟩) BKv.out HZN.out.1 _) HZN.out.1 _) HZN.out.1 _) HZN.out.1 _) 2).trans rfl, (blk_cell (blk_far (p := ⟨_, 3, none⟩) (blk_far (p := ⟨_, 2, none⟩) (blk_far (p := ⟨_, 1, none⟩) (blk_far (p := ⟨_, 0, none⟩) BKv.out HZN.out.1 _) HZN.out.1 _) HZN.out.1 _) HZN.out.1 _) 3).trans rfl⟩) | go_keep) (first | (go_at_call_of 80 (Value.slice A0 l0.length c0); refine (slices_Clone_int_int.calls _ _ l0 l0 _ ?s1 HC0.out HL0.out).mono ?_; (case s1 => repeat (first | exact (Kd.C_below HR0.out HB.out) | (with_reducible refine Kd.C_alloc ?_ _) | (with_reducible refine Kd.C_drewN ?_ _) | (with_reducible refine Kd.C_drew ?_))); rintro e w2 ⟨v0, rfl, ho0, hb⟩; obtain ⟨B0, d0, rfl⟩ := Kd.R_slice ho0; (first | (have hz_ := blk_below (o := .cells #[.slice none 0 0, .slice none 0 0, .int .i64 0, .int .i64 0] 26 (0, 0)) HZ.out hb; clear HZ; have HZ := Aside0.mk hz_; clear hz_) | (have hz_ := blk_below (o := .cells #[.slice none 0 0, .slice none 0 0, .int .i64 0, .int .i64 0] 26 (0, 0)) (by (with_reducible repeat (first | refine blk_drewN ?_ _ | refine blk_drew ?_)); exact heap_alloc_new _ _) hb; have hzn_ := And.intro (Nat.ne_of_lt (blk_lt BKv.out)) (Nat.ne_of_lt (blk_lt BKr.out)); have hzl_ := below_size HB.out; have HZ := Aside0.mk hz_; have HZN := Aside0.mk hzn_; have HZL := Aside0.mk hzl_; clear hz_ hzn_ hzl_) | skip); have nb_ := Aside0.mk (below_step (by repeat (first | (with_reducible first | exact HB.out | apply below_alloc | apply pw_below_drewN | apply below_drew1) | exact HB.out)) hb); have n0_ := Aside0.mk (blk_below (g := gv) (o := .cells #[.slice A0 l0.length c0, .slice A1 l1.length c1, .int .i64 o, .int .i64 b] 26 (0, 0)) (by (with_reducible repeat (first | refine blk_drewN ?_ _ | refine blk_drew ?_ | refine blk_alloc ?_ _)); exact BKv.out) hb); have n1_ := Aside0.mk (blk_below (g := gr) (o := .cells #[.slice none 0 0, .slice none 0 0, .int .i64 0, .int .i64 0] 26 (0, 0)) (by (with_reducible repeat (first | refine blk_drewN ?_ _ | refine blk_drew ?_ | refine blk_alloc ?_ _)); exact BKr.out) hb); have no_ := Aside0.mk (Kd.R_lower ho0 (below_size (by repeat (first | (with_reducible first | exact HB.out | apply below_alloc | apply pw_below_drewN | apply below_drew1) | exact HB.out)))); clear ho0 ; have HO0 := no_; clear HB BKv BKr; have HB := nb_; have BKv := n0_; have BKr := n1_; clear nb_ n0_ n1_ hb) | (go_at_call_of 80 (Value.slice A1 l1.length c1); refine (slices_Clone_int_int.calls _ _ l1 l1 _ ?s1 HC1.out HL1.out).mono ?_; (case s1 => repeat (first | exact (Kd.C_below HR1.out HB.out) | (with_reducible refine Kd.C_alloc ?_ _) | (with_reducible refine Kd.C_drewN ?_ _) | (with_reducible refine Kd.C_drew ?_))); rintro e w3 ⟨v1, rfl, ho1, hb⟩; obtain ⟨B1, d1, rfl⟩ := Kd.R_slice ho1; (first | (have hz_ := blk_below (o := .cells #[.slice none 0 0, .slice none 0 0, .int .i64 0, .int .i64 0] 26 (0, 0)) HZ.out hb; clear HZ; have HZ := Aside0.mk hz_; clear hz_) | (have hz_ := blk_below (o := .cells #[.slice none 0 0, .slice none 0 0, .int .i64 0, .int .i64 0] 26 (0, 0)) (by (with_reducible repeat (first | refine blk_drewN ?_ _ | refine blk_drew ?_)); exact heap_alloc_new _ _) hb; have hzn_ := And.intro (Nat.ne_of_lt (blk_lt BKv.out)) (Nat.ne_of_lt (blk_lt BKr.out)); have hzl_ := below_size HB.out; have HZ := Aside0.mk hz_; have HZN := Aside0.mk hzn_; have HZL := Aside0.mk hzl_; clear hz_ hzn_ hzl_) | skip); have nb_ := Aside0.mk (below_step (by repeat (first | (with_reducible first | exact HB.out | apply below_alloc | apply pw_below_drewN | apply below_drew1) | exact HB.out)) hb); have n0_ := Aside0.mk (blk_below (g := gv) (o := .cells #[.slice A0 l0.length c0, .slice A1 l1.length c1, .int .i64 o, .int .i64 b] 26 (0, 0)) (by (with_reducible repeat (first | refine blk_drewN ?_ _ | refine blk_drew ?_ | refine blk_alloc ?_ _)); exact BKv.out) hb); have n1_ := Aside0.mk (blk_below (g := gr) (o := .cells #[.slice none 0 0, .slice none 0 0, .int .i64 0, .int .i64 0] 26 (0, 0)) (by (with_reducible repeat (first | refine blk_drewN ?_ _ | refine blk_drew ?_ | refine blk_alloc ?_ _)); exact BKr.out) hb); have nr_ := Aside0.mk (Kd.R_elder (by (with_reducible repeat (first | apply Kd.R_alloc | apply Kd.R_drewN | apply Kd.R_drew)); exact HO0.out) ho1 hb); replace ho1 := Kd.R_newR ho1 (by (with_reducible repeat (first | apply Kd.R_alloc | apply Kd.R_drewN | apply Kd.R_drew)); exact HO0.out); clear HO0; have HO0 := nr_; have no_ := Aside0.mk (Kd.R_lower ho1 (below_size (by repeat (first | (with_reducible first | exact HB.out | apply below_alloc | apply pw_below_drewN | apply below_drew1) | exact HB.out)))); clear ho1 ; have HO1 := no_; clear HB BKv BKr; have HB := nb_; have BKv := n0_; have BKr := n1_; clear nb_ n0_ n1_ hb; (try (have hz0 : w3.cell? ⟨_, 0, none⟩ = some (Value.slice none 0 0) := (blk_cell HZ.out 0).trans rfl; have hzf0 := blk_frozen HZ.out 0; have hz1 : w3.cell? ⟨_, 1, none⟩ = some (Value.slice none 0 0) := (blk_cell HZ.out 1).trans rfl; have hzf1 := blk_frozen HZ.out 1; have hz2 : w3.cell? ⟨_, 2, none⟩ = some (Value.int .i64 0) := (blk_cell HZ.out 2).trans rfl; have hzf2 := blk_frozen HZ.out 2; have hz3 : w3.cell? ⟨_, 3, none⟩ = some (Value.int .i64 0) := (blk_cell HZ.out 3).trans rfl; have hzf3 := blk_frozen HZ.out 3))))
    · go_wp2
      go_meet
      case rel => exact ⟨w3.heap.size, B0, B1, d0, d1, rfl, ⟨by (with_reducible repeat (first | refine blk_drewN ?_ _ | refine blk_drew ?_)); exact heap_alloc_new _ _⟩, ⟨by (with_reducible repeat (first | apply Kd.R_alloc | apply Kd.R_drewN | apply Kd.R_drew)); exact Kd.R_mono HO0.out (fun _ hk => hk.2)⟩, ⟨by (with_reducible repeat (first | apply Kd.R_alloc | apply Kd.R_drewN | apply Kd.R_drew)); exact Kd.R_mono HO1.out (fun _ hk => hk.2)⟩, ⟨below_size HB.out⟩, ⟨(Nat.ne_of_lt (blk_lt BKr.out)).symm⟩, ⟨(by (with_reducible repeat (first | refine blk_drewN ?_ _ | refine blk_drew ?_ | refine blk_alloc ?_ _)); exact BKr.out)⟩, ⟨by repeat (first | (with_reducible first | exact HB.out | apply below_alloc | apply pw_below_drewN | apply below_drew1) | exact HB.out)⟩⟩
    all_goals
      go_wp2
      go_meet
      case rel => exact ⟨_, B0, B1, d0, d1, rfl, ⟨by (with_reducible repeat (first | refine blk_drewN ?_ _ | refine blk_drew ?_)); refine blk_put (cs := #[.slice B0 l0.length d0, .slice B1 l1.length d1, .int .i64 o, .int .i64 0]) ?_ 3 _ rfl; refine blk_put (cs := #[.slice B0 l0.length d0, .slice B1 l1.length d1, .int .i64 0, .int .i64 0]) ?_ 2 _ rfl; refine blk_put (cs := #[.slice B0 l0.length d0, .slice none 0 0, .int .i64 0, .int .i64 0]) ?_ 1 _ rfl; refine blk_put (cs := #[.slice none 0 0, .slice none 0 0, .int .i64 0, .int .i64 0]) ?_ 0 _ rfl; exact HZ.out⟩, ⟨by (with_reducible repeat (first | apply Kd.R_alloc | apply Kd.R_drewN | apply Kd.R_drew)); exact Kd.R_mono (Kd.R_far (p := ⟨_, 3, none⟩) (Kd.R_far (p := ⟨_, 2, none⟩) (Kd.R_far (p := ⟨_, 1, none⟩) (Kd.R_far (p := ⟨_, 0, none⟩) (Kd.R_types HO0.out HZ.out (by decide)) (fun _ hk => hk.2) _) (fun _ hk => hk.2) _) (fun _ hk => hk.2) _) (fun _ hk => hk.2) _) (fun _ hk => hk.1.2)⟩, ⟨by (with_reducible repeat (first | apply Kd.R_alloc | apply Kd.R_drewN | apply Kd.R_drew)); exact Kd.R_mono (Kd.R_far (p := ⟨_, 3, none⟩) (Kd.R_far (p := ⟨_, 2, none⟩) (Kd.R_far (p := ⟨_, 1, none⟩) (Kd.R_far (p := ⟨_, 0, none⟩) (Kd.R_types HO1.out HZ.out (by decide)) (fun _ hk => hk.2) _) (fun _ hk => hk.2) _) (fun _ hk => hk.2) _) (fun _ hk => hk.2) _) (fun _ hk => hk.1.2)⟩, ⟨HZL.out⟩, ⟨HZN.out.2.symm⟩, ⟨by (with_reducible repeat (first | refine blk_drewN ?_ _ | refine blk_drew ?_)); exact blk_far (p := ⟨_, 3, none⟩) (blk_far (p := ⟨_, 2, none⟩) (blk_far (p := ⟨_, 1, none⟩) (blk_far (p := ⟨_, 0, none⟩) BKr.out HZN.out.2 _) HZN.out.2 _) HZN.out.2 _) HZN.out.2 _⟩, ⟨by repeat (first | (with_reducible first | exact HB.out | apply below_alloc | apply pw_below_drewN | apply below_drew1 | refine below_set ?_ HZL.out) | exact HB.out)⟩⟩
  case rest =>
    obtain ⟨gw, B0, B1, d0, d1, rfl, BKw, HO0, HO1, GW, GWR, BKr, HB⟩ := hcut
    try clear hcv0 hcv1 hcv2 hcv3
    have GRB := Aside0.mk (Nat.le_trans HBS.out GBKr.out)
    cases rb with
    | false =>
      obtain ⟨rfl, rfl, rfl, rfl⟩ : r0 = [] ∧ r1 = [] ∧ r2 = 0 ∧ r3 = 0 := by simpa using hres.symm
      go_wp2_with (first | (go_at_call 48; refine (HBY.out _ gw B0 B1 d0 d1 HB.out GW.out BKw.out HO0.out HO1.out).mono ?_; rintro e w4 ⟨v0, v1, rfl, hw, ho0, ho1, hk, hsz, hbb⟩; obtain ⟨E0, f0, rfl⟩ := Kd.R_slice ho0; obtain ⟨E1, f1, rfl⟩ := Kd.R_slice ho1; have n0_ := Aside0.mk (hk gr _ GWR.out.symm BKr.out); have h26_ : ∀ (g : Nat) (cs : Array Value), w.heap[g]? = some (.cells cs 26 (0, 0)) → w4.heap[g]? = some (.cells cs 26 (0, 0)) := fun g cs h_ => hk g cs (by have := blk_lt h_; have := GW.out; omega) (blk_below h_ HB.out); have H26 := Aside0.mk h26_; clear h26_; have HSZ := Aside0.mk (Nat.le_trans (Nat.le_trans HBS.out (below_size HB.out)) hsz); clear HB BKw HO0 HO1 BKr hk hsz; have HBB := Aside0.mk hbb; have BKw := Aside0.mk hw; have HO0 := Aside0.mk ho0; have HO1 := Aside0.mk ho1; have BKr := n0_; clear n0_ hbb hw ho0 ho1; have hcw0 : w4.cell? ⟨gw, 0, none⟩ = some (.slice E0 m0.length f0) := (blk_cell BKw.out 0).trans rfl; have hcw1 : w4.cell? ⟨gw, 1, none⟩ = some (.slice E1 m1.length f1) := (blk_cell BKw.out 1).trans rfl; have hcw2 : w4.cell? ⟨gw, 2, none⟩ = some (.int .i64 m2) := (blk_cell BKw.out 2).trans rfl; have hcw3 : w4.cell? ⟨gw, 3, none⟩ = some (.int .i64 m3) := (blk_cell BKw.out 3).trans rfl; have hcr0 : w4.cell? ⟨gr, 0, none⟩ = some (.slice none 0 0) := (blk_cell BKr.out 0).trans rfl; have hcr1 : w4.cell? ⟨gr, 1, none⟩ = some (.slice none 0 0) := (blk_cell BKr.out 1).trans rfl; have hcr2 : w4.cell? ⟨gr, 2, none⟩ = some (.int .i64 0) := (blk_cell BKr.out 2).trans rfl; have hcr3 : w4.cell? ⟨gr, 3, none⟩ = some (.int .i64 0) := (blk_cell BKr.out 3).trans rfl; have hcrf0 := blk_frozen BKr.out 0; have hcrf1 := blk_frozen BKr.out 1; have hcrf2 := blk_frozen BKr.out 2; have hcrf3 := blk_frozen BKr.out 3))
      refine bodyPost_ret (results_cell_row rfl _ _ gr 26 #[.slice none 0 0, .slice none 0 0, .int .i64 0, .int .i64 0] (0, 0) _ rfl (by (with_reducible repeat (first | refine blk_drewN ?_ _ | refine blk_drew ?_)); refine blk_put (cs := #[.slice none 0 0, .slice none 0 0, .int .i64 0, .int .i64 0]) ?_ 3 _ rfl; (with_reducible repeat (first | refine blk_drewN ?_ _ | refine blk_drew ?_)); refine blk_put (cs := #[.slice none 0 0, .slice none 0 0, .int .i64 0, .int .i64 0]) ?_ 2 _ rfl; (with_reducible repeat (first | refine blk_drewN ?_ _ | refine blk_drew ?_)); refine blk_put (cs := #[.slice none 0 0, .slice none 0 0, .int .i64 0, .int .i64 0]) ?_ 1 _ rfl; (with_reducible repeat (first | refine blk_drewN ?_ _ | refine blk_drew ?_)); refine blk_put (cs := #[.slice none 0 0, .slice none 0 0, .int .i64 0, .int .i64 0]) ?_ 0 _ rfl; (with_reducible repeat (first | refine blk_drewN ?_ _ | refine blk_drew ?_)); exact BKr.out) Try.underlying26 rfl (by kernel_rfl)) rfl ?_
      exact ⟨_, _, rfl, Kd.R_nil _ _ _ _ _, Kd.R_nil _ _ _ _ _, by (with_reducible repeat (first | exact HBB.out | apply pw_below_drewN | apply below_drew | (refine Below.setCell ?_ GRB.out _))), fun g cs h_ => by have hne_ : g ≠ gr := (by have := blk_lt h_; have := GBKr.out; omega); (with_reducible repeat (first | refine blk_drewN ?_ _ | refine blk_drew ?_ | refine blk_far ?_ hne_ _)); exact H26.out g cs h_⟩
    | true =>
      have HV2 := Aside0.mk (hv2 rfl)
      clear hv2
      cases t2 with
      | false =>
      obtain ⟨rfl, rfl, rfl, rfl⟩ : r0 = [] ∧ r1 = [] ∧ r2 = 0 ∧ r3 = 0 := by simpa using hres.symm
      go_wp2_with (first | (go_at_call 48; refine (HBY.out _ gw B0 B1 d0 d1 HB.out GW.out BKw.out HO0.out HO1.out).mono ?_; rintro e w4 ⟨v0, v1, rfl, hw, ho0, ho1, hk, hsz, hbb⟩; obtain ⟨E0, f0, rfl⟩ := Kd.R_slice ho0; obtain ⟨E1, f1, rfl⟩ := Kd.R_slice ho1; have n0_ := Aside0.mk (hk gr _ GWR.out.symm BKr.out); have h26_ : ∀ (g : Nat) (cs : Array Value), w.heap[g]? = some (.cells cs 26 (0, 0)) → w4.heap[g]? = some (.cells cs 26 (0, 0)) := fun g cs h_ => hk g cs (by have := blk_lt h_; have := GW.out; omega) (blk_below h_ HB.out); have H26 := Aside0.mk h26_; clear h26_; have HSZ := Aside0.mk (Nat.le_trans (Nat.le_trans HBS.out (below_size HB.out)) hsz); clear HB BKw HO0 HO1 BKr hk hsz; have HBB := Aside0.mk hbb; have BKw := Aside0.mk hw; have HO0 := Aside0.mk ho0; have HO1 := Aside0.mk ho1; have BKr := n0_; clear n0_ hbb hw ho0 ho1; have hcw0 : w4.cell? ⟨gw, 0, none⟩ = some (.slice E0 m0.length f0) := (blk_cell BKw.out 0).trans rfl; have hcw1 : w4.cell? ⟨gw, 1, none⟩ = some (.slice E1 m1.length f1) := (blk_cell BKw.out 1).trans rfl; have hcw2 : w4.cell? ⟨gw, 2, none⟩ = some (.int .i64 m2) := (blk_cell BKw.out 2).trans rfl; have hcw3 : w4.cell? ⟨gw, 3, none⟩ = some (.int .i64 m3) := (blk_cell BKw.out 3).trans rfl; have hcr0 : w4.cell? ⟨gr, 0, none⟩ = some (.slice none 0 0) := (blk_cell BKr.out 0).trans rfl; have hcr1 : w4.cell? ⟨gr, 1, none⟩ = some (.slice none 0 0) := (blk_cell BKr.out 1).trans rfl; have hcr2 : w4.cell? ⟨gr, 2, none⟩ = some (.int .i64 0) := (blk_cell BKr.out 2).trans rfl; have hcr3 : w4.cell? ⟨gr, 3, none⟩ = some (.int .i64 0) := (blk_cell BKr.out 3).trans rfl; have hcrf0 := blk_frozen BKr.out 0; have hcrf1 := blk_frozen BKr.out 1; have hcrf2 := blk_frozen BKr.out 2; have hcrf3 := blk_frozen BKr.out 3) | (go_at_call 79; refine (impl_ViewOk.calls k _ _ m0 _ _ m1 m2 m3 _ _ ?s1 ?s2 ?s3 ?s4 HV2.out).mono ?_; (case s1 => exact (Kd.R_reads' HO0.out).2.2); (case s2 => exact (Kd.R_reads' HO0.out).2.1); (case s3 => exact (Kd.R_reads' HO1.out).2.2); (case s4 => exact (Kd.R_reads' HO1.out).2.1); rintro e w5 ⟨rfl, hb⟩; have n0_ := Aside0.mk (Kd.R_below HO0.out hb); have n1_ := Aside0.mk (Kd.R_below HO1.out hb); have n2_ := Aside0.mk (blk_below BKw.out hb); have n3_ := Aside0.mk (blk_below BKr.out hb); have n4_ := Aside0.mk (below_then HBB.out HSZ.out hb); have n5_ : Aside0 (∀ (g : Nat) (cs : Array Value), w.heap[g]? = some (.cells cs 26 (0, 0)) → w5.heap[g]? = some (.cells cs 26 (0, 0))) := ⟨fun g cs h_ => blk_below (H26.out g cs h_) hb⟩; clear H26; have H26 := n5_; clear n5_; clear HO0 HO1 BKw BKr HBB hb hcw0 hcw1 hcw2 hcw3 hcr0 hcr1 hcr2 hcr3 hcrf0 hcrf1 hcrf2 hcrf3; have HO0 := n0_; have HO1 := n1_; have BKw := n2_; have BKr := n3_; have HBB := n4_; clear n0_ n1_ n2_ n3_ n4_; have hcw0 : w5.cell? ⟨gw, 0, none⟩ = some (.slice E0 m0.length f0) := (blk_cell BKw.out 0).trans rfl; have hcw1 : w5.cell? ⟨gw, 1, none⟩ = some (.slice E1 m1.length f1) := (blk_cell BKw.out 1).trans rfl; have hcw2 : w5.cell? ⟨gw, 2, none⟩ = some (.int .i64 m2) := (blk_cell BKw.out 2).trans rfl; have hcw3 : w5.cell? ⟨gw, 3, none⟩ = some (.int .i64 m3) := (blk_cell BKw.out 3).trans rfl; have hcr0 : w5.cell? ⟨gr, 0, none⟩ = some (.slice none 0 0) := (blk_cell BKr.out 0).trans rfl; have hcr1 : w5.cell? ⟨gr, 1, none⟩ = some (.slice none 0 0) := (blk_cell BKr.out 1).trans rfl; have hcr2 : w5.cell? ⟨gr, 2, none⟩ = some (.int .i64 0) := (blk_cell BKr.out 2).trans rfl; have hcr3 : w5.cell? ⟨gr, 3, none⟩ = some (.int .i64 0) := (blk_cell BKr.out 3).trans rfl; have hcrf0 := blk_frozen BKr.out 0; have hcrf1 := blk_frozen BKr.out 1; have hcrf2 := blk_frozen BKr.out 2; have hcrf3 := blk_frozen BKr.out 3))
      refine bodyPost_ret (results_cell_row rfl _ _ gr 26 #[.slice none 0 0, .slice none 0 0, .int .i64 0, .int .i64 0] (0, 0) _ rfl (by (with_reducible repeat (first | refine blk_drewN ?_ _ | refine blk_drew ?_)); refine blk_put (cs := #[.slice none 0 0, .slice none 0 0, .int .i64 0, .int .i64 0]) ?_ 3 _ rfl; (with_reducible repeat (first | refine blk_drewN ?_ _ | refine blk_drew ?_)); refine blk_put (cs := #[.slice none 0 0, .slice none 0 0, .int .i64 0, .int .i64 0]) ?_ 2 _ rfl; (with_reducible repeat (first | refine blk_drewN ?_ _ | refine blk_drew ?_)); refine blk_put (cs := #[.slice none 0 0, .slice none 0 0, .int .i64 0, .int .i64 0]) ?_ 1 _ rfl; (with_reducible repeat (first | refine blk_drewN ?_ _ | refine blk_drew ?_)); refine blk_put (cs := #[.slice none 0 0, .slice none 0 0, .int .i64 0, .int .i64 0]) ?_ 0 _ rfl; (with_reducible repeat (first | refine blk_drewN ?_ _ | refine blk_drew ?_)); exact BKr.out) Try.underlying26 rfl (by kernel_rfl)) rfl ?_
      exact ⟨_, _, rfl, Kd.R_nil _ _ _ _ _, Kd.R_nil _ _ _ _ _, by (with_reducible repeat (first | exact HBB.out | apply pw_below_drewN | apply below_drew | (refine Below.setCell ?_ GRB.out _))), fun g cs h_ => by have hne_ : g ≠ gr := (by have := blk_lt h_; have := GBKr.out; omega); (with_reducible repeat (first | refine blk_drewN ?_ _ | refine blk_drew ?_ | refine blk_far ?_ hne_ _)); exact H26.out g cs h_⟩
      | true =>
      obtain ⟨rfl, rfl, rfl, rfl⟩ : m0 = r0 ∧ m1 = r1 ∧ m2 = r2 ∧ m3 = r3 := by simpa using hres
      go_wp2_with (first | (go_at_call 48; refine (HBY.out _ gw B0 B1 d0 d1 HB.out GW.out BKw.out HO0.out HO1.out).mono ?_; rintro e w4 ⟨v0, v1, rfl, hw, ho0, ho1, hk, hsz, hbb⟩; obtain ⟨E0, f0, rfl⟩ := Kd.R_slice ho0; obtain ⟨E1, f1, rfl⟩ := Kd.R_slice ho1; have n0_ := Aside0.mk (hk gr _ GWR.out.symm BKr.out); have h26_ : ∀ (g : Nat) (cs : Array Value), w.heap[g]? = some (.cells cs 26 (0, 0)) → w4.heap[g]? = some (.cells cs 26 (0, 0)) := fun g cs h_ => hk g cs (by have := blk_lt h_; have := GW.out; omega) (blk_below h_ HB.out); have H26 := Aside0.mk h26_; clear h26_; have HSZ := Aside0.mk (Nat.le_trans (Nat.le_trans HBS.out (below_size HB.out)) hsz); clear HB BKw HO0 HO1 BKr hk hsz; have HBB := Aside0.mk hbb; have BKw := Aside0.mk hw; have HO0 := Aside0.mk ho0; have HO1 := Aside0.mk ho1; have BKr := n0_; clear n0_ hbb hw ho0 ho1; have hcw0 : w4.cell? ⟨gw, 0, none⟩ = some (.slice E0 m0.length f0) := (blk_cell BKw.out 0).trans rfl; have hcw1 : w4.cell? ⟨gw, 1, none⟩ = some (.slice E1 m1.length f1) := (blk_cell BKw.out 1).trans rfl; have hcw2 : w4.cell? ⟨gw, 2, none⟩ = some (.int .i64 m2) := (blk_cell BKw.out 2).trans rfl; have hcw3 : w4.cell? ⟨gw, 3, none⟩ = some (.int .i64 m3) := (blk_cell BKw.out 3).trans rfl; have hcr0 : w4.cell? ⟨gr, 0, none⟩ = some (.slice none 0 0) := (blk_cell BKr.out 0).trans rfl; have hcr1 : w4.cell? ⟨gr, 1, none⟩ = some (.slice none 0 0) := (blk_cell BKr.out 1).trans rfl; have hcr2 : w4.cell? ⟨gr, 2, none⟩ = some (.int .i64 0) := (blk_cell BKr.out 2).trans rfl; have hcr3 : w4.cell? ⟨gr, 3, none⟩ = some (.int .i64 0) := (blk_cell BKr.out 3).trans rfl; have hcrf0 := blk_frozen BKr.out 0; have hcrf1 := blk_frozen BKr.out 1; have hcrf2 := blk_frozen BKr.out 2; have hcrf3 := blk_frozen BKr.out 3) | (go_at_call 79; refine (impl_ViewOk.calls k _ _ m0 _ _ m1 m2 m3 _ _ ?s1 ?s2 ?s3 ?s4 HV2.out).mono ?_; (case s1 => exact (Kd.R_reads' HO0.out).2.2); (case s2 => exact (Kd.R_reads' HO0.out).2.1); (case s3 => exact (Kd.R_reads' HO1.out).2.2); (case s4 => exact (Kd.R_reads' HO1.out).2.1); rintro e w5 ⟨rfl, hb⟩; have n0_ := Aside0.mk (Kd.R_below HO0.out hb); have n1_ := Aside0.mk (Kd.R_below HO1.out hb); have n2_ := Aside0.mk (blk_below BKw.out hb); have n3_ := Aside0.mk (blk_below BKr.out hb); have n4_ := Aside0.mk (below_then HBB.out HSZ.out hb); have n5_ : Aside0 (∀ (g : Nat) (cs : Array Value), w.heap[g]? = some (.cells cs 26 (0, 0)) → w5.heap[g]? = some (.cells cs 26 (0, 0))) := ⟨fun g cs h_ => blk_below (H26.out g cs h_) hb⟩; clear H26; have H26 := n5_; clear n5_; clear HO0 HO1 BKw BKr HBB hb hcw0 hcw1 hcw2 hcw3 hcr0 hcr1 hcr2 hcr3 hcrf0 hcrf1 hcrf2 hcrf3; have HO0 := n0_; have HO1 := n1_; have BKw := n2_; have BKr := n3_; have HBB := n4_; clear n0_ n1_ n2_ n3_ n4_; have hcw0 : w5.cell? ⟨gw, 0, none⟩ = some (.slice E0 m0.length f0) := (blk_cell BKw.out 0).trans rfl; have hcw1 : w5.cell? ⟨gw, 1, none⟩ = some (.slice E1 m1.length f1) := (blk_cell BKw.out 1).trans rfl; have hcw2 : w5.cell? ⟨gw, 2, none⟩ = some (.int .i64 m2) := (blk_cell BKw.out 2).trans rfl; have hcw3 : w5.cell? ⟨gw, 3, none⟩ = some (.int .i64 m3) := (blk_cell BKw.out 3).trans rfl; have hcr0 : w5.cell? ⟨gr, 0, none⟩ = some (.slice none 0 0) := (blk_cell BKr.out 0).trans rfl; have hcr1 : w5.cell? ⟨gr, 1, none⟩ = some (.slice none 0 0) := (blk_cell BKr.out 1).trans rfl; have hcr2 : w5.cell? ⟨gr, 2, none⟩ = some (.int .i64 0) := (blk_cell BKr.out 2).trans rfl; have hcr3 : w5.cell? ⟨gr, 3, none⟩ = some (.int .i64 0) := (blk_cell BKr.out 3).trans rfl; have hcrf0 := blk_frozen BKr.out 0; have hcrf1 := blk_frozen BKr.out 1; have hcrf2 := blk_frozen BKr.out 2; have hcrf3 := blk_frozen BKr.out 3))
      refine bodyPost_ret (results_cell_row rfl _ _ gr 26 #[.slice E0 m0.length f0, .slice E1 m1.length f1, .int .i64 m2, .int .i64 m3] (0, 0) _ rfl (by (with_reducible repeat (first | refine blk_drewN ?_ _ | refine blk_drew ?_)); refine blk_put (cs := #[.slice E0 m0.length f0, .slice E1 m1.length f1, .int .i64 m2, .int .i64 0]) ?_ 3 _ rfl; (with_reducible repeat (first | refine blk_drewN ?_ _ | refine blk_drew ?_)); refine blk_put (cs := #[.slice E0 m0.length f0, .slice E1 m1.length f1, .int .i64 0, .int .i64 0]) ?_ 2 _ rfl; (with_reducible repeat (first | refine blk_drewN ?_ _ | refine blk_drew ?_)); refine blk_put (cs := #[.slice E0 m0.length f0, .slice none 0 0, .int .i64 0, .int .i64 0]) ?_ 1 _ rfl; (with_reducible repeat (first | refine blk_drewN ?_ _ | refine blk_drew ?_)); refine blk_put (cs := #[.slice none 0 0, .slice none 0 0, .int .i64 0, .int .i64 0]) ?_ 0 _ rfl; (with_reducible repeat (first | refine blk_drewN ?_ _ | refine blk_drew ?_)); exact BKr.out) Try.underlying26 rfl (by kernel_rfl)) rfl ?_
      exact ⟨_, _, rfl, by (with_reducible repeat (first | apply Kd.R_drewN | apply Kd.R_drew)); exact Kd.R_mono (Kd.R_far (p := ⟨gr, 3, none⟩) (Kd.R_far (p := ⟨gr, 2, none⟩) (Kd.R_far (p := ⟨gr, 1, none⟩) (Kd.R_far (p := ⟨gr, 0, none⟩) (Kd.R_types HO0.out BKr.out (by decide)) (fun _ hk => hk.2) _) (fun _ hk => hk.2) _) (fun _ hk => hk.2) _) (fun _ hk => hk.2) _) (fun _ hk => hk.1), by (with_reducible repeat (first | apply Kd.R_drewN | apply Kd.R_drew)); exact Kd.R_mono (Kd.R_far (p := ⟨gr, 3, none⟩) (Kd.R_far (p := ⟨gr, 2, none⟩) (Kd.R_far (p := ⟨gr, 1, none⟩) (Kd.R_far (p := ⟨gr, 0, none⟩) (Kd.R_types HO1.out BKr.out (by decide)) (fun _ hk => hk.2) _) (fun _ hk => hk.2) _) (fun _ hk => hk.2) _) (fun _ hk => hk.2) _) (fun _ hk => hk.1), by (with_reducible repeat (first | exact HBB.out | apply pw_below_drewN | apply below_drew | (refine Below.setCell ?_ GRB.out _))), fun g cs h_ => by have hne_ : g ≠ gr := (by have := blk_lt h_; have := GBKr.out; omega); (with_reducible repeat (first | refine blk_drewN ?_ _ | refine blk_drew ?_ | refine blk_far ?_ hne_ _)); exact H26.out g cs h_⟩
/-- A view in memory, its rows its own, and what else stays. -/
def ViewAt (w0 W : World) (base B gw : Nat) (m0 m1 : List Int) (m2 m3 : Int) (W' : World) : Prop :=
  ∃ v0 v1 : Value, W'.heap[gw]? = some (.cells #[v0, v1, .int .i64 m2, .int .i64 m3] 26 (0, 0)) ∧ Kd.R (Kd.int .i64) 3 W' base (fun k_ => some k_ ≠ (v1 : Value).ownBlock) v0 m0 ∧ Kd.R (Kd.int .i64) 3 W' base (fun k_ => some k_ ≠ (v0 : Value).ownBlock) v1 m1 ∧
    (∀ (g : Nat) (cs : Array Value), g ≠ gw → W.heap[g]? = some (.cells cs 26 (0, 0)) → W'.heap[g]? = some (.cells cs 26 (0, 0))) ∧ W.heap.size ≤ W'.heap.size ∧ Below B w0 W'
/-- set, over rows. -/
theorem set_at (w0 W : World) (base B gw : Nat) (v0 v1 : Value) (l0 l1 : List Int) (o b axis n s sv : Int) (hsv : sv = if n = 1 then 0 else s)
    (hp : W.heap[gw]? = some (.cells #[v0, v1, .int .i64 o, .int .i64 b] 26 (0, 0)))
    (h0 : Kd.R (Kd.int .i64) 3 W base (fun k_ => some k_ ≠ (v1 : Value).ownBlock) v0 l0) (h1 : Kd.R (Kd.int .i64) 3 W base (fun k_ => some k_ ≠ (v0 : Value).ownBlock) v1 l1)
    (hB : Below B w0 W) (hbase : B ≤ base) (ha : 0 ≤ axis) (ha0 : axis < (l0.length : Int)) (ha1 : axis < (l1.length : Int)) :
    Calls Try.prog 42 #[.pointer (some ⟨gw, 0, none⟩), .int .i64 axis, .int .i64 n, .int .i64 s] W fun e W' => e = .returned (.tuple #[]) ∧ ViewAt w0 W base B gw (l0.set axis.toNat n) (l1.set axis.toNat sv) o b W' := by
  obtain ⟨g0, d0, rfl, b0, s0, cs0, hc0⟩ := Kd.R_form h0 (by omega)
  obtain ⟨g1, d1, rfl, b1, s1, cs1, hc1⟩ := Kd.R_form h1 (by omega)
  have e0 : g0 ≠ g1 := by
    have := h0.1 g0 rfl
    intro e
    exact this (by rw [e]; rfl)
  have n0 : gw ≠ g0 := blk_ne hp hc0 (by decide)
  have n1 : gw ≠ g1 := blk_ne hp hc1 (by decide)
  obtain ⟨x0, f0⟩ := Kd.R_celln 0 h0 axis ha ha0
  obtain ⟨x1, f1⟩ := Kd.R_celln 0 h1 axis ha ha1
  refine (set_calls gw g0 d0 l0.length g1 d1 l1.length o b axis n s _ _ sv W hsv hp x0 x1 f0 f1 e0 ha ha0 ha1).mono ?_
  rintro e w' ⟨rfl, m, rfl⟩
  have p0 := (Kd.R_putg h0 axis n).1
  have t1 := Kd.R_far (p := ⟨g0, axis.toNat, none⟩) h1 (fun k hk e => hk (by rw [e]; rfl)) (.int .i64 n)
  have t0 := Kd.R_far (p := ⟨g1, axis.toNat, none⟩) p0 (fun k hk e => hk (by rw [e]; rfl)) (.int .i64 sv)
  have p1 := (Kd.R_putg t1 axis sv).1
  refine ⟨rfl, _, _, blk_drewN (blk_far (blk_far hp n0 _) n1 _) m, Kd.R_drewN t0 m, Kd.R_drewN p1 m, ?_, ?_, ?_⟩
  · intro g cs hg h
    have m0 : g ≠ g0 := blk_ne h hc0 (by decide)
    have m1 : g ≠ g1 := blk_ne h hc1 (by decide)
    exact blk_drewN (blk_far (blk_far h m0 _) m1 _) m
  · simp
  · exact pw_below_drewN ((hB.setCell (p := ⟨g0, axis.toNat, none⟩) (Nat.le_trans hbase b0) _).setCell (p := ⟨g1, axis.toNat, none⟩) (Nat.le_trans hbase b1) _) m
set_option maxHeartbeats 2000000 in
set_option maxRecDepth 100000 in
theorem put_at (w0 W : World) (base B gw : Nat) (A0 A1 : Option Addr) (d0 d1 : Nat) (l0 l1 : List Int) (o b n s sv : Int) (hsv : sv = if n = 1 then 0 else s)
    (hp : W.heap[gw]? = some (.cells #[.slice A0 l0.length d0, .slice A1 l1.length d1, .int .i64 o, .int .i64 b] 26 (0, 0)))
    (h0 : Kd.R (Kd.int .i64) 3 W base (fun k_ => some k_ ≠ (.slice A1 l1.length d1 : Value).ownBlock) (.slice A0 l0.length d0) l0) (h1 : Kd.R (Kd.int .i64) 3 W base (fun k_ => some k_ ≠ (.slice A0 l0.length d0 : Value).ownBlock) (.slice A1 l1.length d1) l1)
    (hB : Below B w0 W) (hbase : B ≤ base) (hbs : base ≤ W.heap.size) (hgw : B ≤ gw) (hl : l0.length = l1.length) (hl2 : l0.length ≤ 1000) :
    Calls Try.prog 47 #[.pointer (some ⟨gw, 0, none⟩), .int .i64 n, .int .i64 s] W fun e W' => e = .returned (.tuple #[]) ∧ ViewAt w0 W base B gw (l0 ++ [n]) (l1 ++ [sv]) o b W' := by
  have HSV := Aside0.mk hsv
  clear hsv
  have hc0 := (blk_cell hp 0).trans (show _ = some (Value.slice A0 l0.length d0) from rfl)
  have hc1 := (blk_cell hp 1).trans (show _ = some (Value.slice A1 l1.length d1) from rfl)
  have hf0 := blk_frozen hp 0
  have hf1 := blk_frozen hp 1
  have BK := Aside0.mk hp
  have HO0 := Aside0.mk h0
  have HO1 := Aside0.mk h1
  have HBB := Aside0.mk hB
  have HBA := Aside0.mk (And.intro hbase (And.intro hbs hgw))
  have HL := Aside0.mk (And.intro hl hl2)
  clear hp h0 h1 hB hbase hbs hgw hl hl2
  obtain ⟨y0, HY0⟩ : ∃ y_ : List Int, y_ = l0 ++ [0] := ⟨_, rfl⟩
  obtain ⟨y1, HY1⟩ : ∃ y_ : List Int, y_ = l1 ++ [0] := ⟨_, rfl⟩
  have HWX : Aside0 (wrap64 ((y0.length : Int) - 1) = (l0.length : Int)) := ⟨by have := HL.out; rw [HY0, List.length_append, List.length_singleton]; unfold wrap64; omega⟩
  go_enter Try.func47, Try.ntmps47
  go_wp2_with (first | (at_builtin; refine Kd.R_append (Kd.int .i64) (w0 := W) base rfl (.tmp 10) (.tmp 11) 22 3 (.int .i64 0) 8 rfl Try.underlying22 info3 rfl (by decide) (by omega) (.slice A0 l0.length d0) l0 0 [.int .i64 0] (fun k_ => some k_ ≠ (.slice A1 l1.length d1 : Value).ownBlock) (fun _ => False) rfl rfl rfl (fun _ hk => hk.elim) ?aF HO0.out (Below.refl _ _) HBA.out.2.1 ?aL ?_; (case aF => exact fun k hk e => by have := Kd.R_lt HO1.out k e.symm; omega); (case aL => have := HL.out; omega); intro v1 w1 ho hb hg hat; have hbk := blk_grown BK.out hg (Kd.R_ne HO0.out BK.out (by decide)); have ho1 := Kd.R_after (v := .slice A0 l0.length d0) (v1 := v1) (ok := fun _ => True) (Kd.R_mono HO1.out (fun k hk => ⟨trivial, hk⟩)) hg hat; have hbb : Aside0 (Below B w0 w1) := ⟨HBB.out.trans (hb.mono HBA.out.1)⟩; have Y0 := Aside0.mk HY0; rw [← HY0] at ho; clear HY0; obtain ⟨E0, f0, rfl⟩ := Kd.R_slice ho; have SZ := Aside0.mk (And.intro (Nat.le_trans HBA.out.2.1 hb.size) hb.size); have H26 : Aside0 (∀ (g : Nat) (cs : Array Value), g ≠ gw → W.heap[g]? = some (.cells cs 26 (0, 0)) → w1.heap[g]? = some (.cells cs 26 (0, 0))) := ⟨fun g cs _ h => blk_grown h hg (Kd.R_ne HO0.out h (by decide))⟩; have nbk_ := blk_put (cs' := #[.slice E0 y0.length f0, .slice A1 l1.length d1, .int .i64 o, .int .i64 b]) hbk 0 (.slice E0 y0.length f0) rfl; have nho0 := Aside0.mk (Kd.R_set ho hbk (by decide) 0 (.slice E0 y0.length f0)); have nho1 := Aside0.mk (Kd.R_mono (Kd.R_set ho1 hbk (by decide) 0 (.slice E0 y0.length f0)) (fun _ hk => hk.2)); have nbb_ : Aside0 (Below B w0 (w1.setCell ⟨gw, 0, none⟩ (.slice E0 y0.length f0))) := ⟨hbb.out.setCell (p := ⟨gw, 0, none⟩) HBA.out.2.2 _⟩; clear HO0 HO1 HBB BK hc0 hc1 hf0 hf1 hb hg hat ho ho1 hbb; have BK := Aside0.mk nbk_; have HBB := nbb_; have HO0 := nho0; have HO1 := nho1; clear nho0 nho1 nbk_ nbb_; have hc0 := (blk_cell hbk 0).trans (show _ = some (Value.slice A0 l0.length d0) from rfl); have hf0 := blk_frozen hbk 0; have hc1 := (blk_cell hbk 1).trans (show _ = some (Value.slice A1 l1.length d1) from rfl); clear hbk) | (at_builtin; refine Kd.R_append (Kd.int .i64) (w0 := (w1.setCell ⟨gw, 0, none⟩ (.slice E0 y0.length f0))) base rfl (.tmp 19) (.tmp 20) 22 3 (.int .i64 0) 8 rfl Try.underlying22 info3 rfl (by decide) (by omega) (.slice A1 l1.length d1) l1 0 [.int .i64 0] (fun k_ => some k_ ≠ (.slice E0 y0.length f0 : Value).ownBlock) (fun _ => False) rfl ?aX rfl (fun _ hk => hk.elim) ?aF HO1.out (Below.refl _ _) ?aS ?aL ?_; (case aX => show Value.slice (some ⟨w1.heap.size, 0, none⟩) 1 1 = _; simp); (case aF => exact fun k hk e => by have := Kd.R_lt HO0.out k e.symm; omega); (case aS => have := SZ.out.1; simpa using this); (case aL => have := HL.out; omega); intro v2 w2 ho hb hg hat; have hbk := blk_grown BK.out hg (Kd.R_ne HO1.out BK.out (by decide)); have ho1 := Kd.R_after (v := .slice A1 l1.length d1) (v1 := v2) (ok := fun _ => True) (Kd.R_mono HO0.out (fun k hk => ⟨trivial, hk⟩)) hg hat; have hbb : Aside0 (Below B w0 w2) := ⟨HBB.out.trans (hb.mono HBA.out.1)⟩; have Y1 := Aside0.mk HY1; rw [← HY1] at ho; clear HY1; obtain ⟨E1, f1, rfl⟩ := Kd.R_slice ho; have SZ2 : Aside0 (W.heap.size ≤ w2.heap.size) := ⟨Nat.le_trans (by have := SZ.out.2; simpa using this) hb.size⟩; have H262 : Aside0 (∀ (g : Nat) (cs : Array Value), g ≠ gw → W.heap[g]? = some (.cells cs 26 (0, 0)) → w2.heap[g]? = some (.cells cs 26 (0, 0))) := ⟨fun g cs hne_ h => blk_grown (blk_far (p := ⟨gw, 0, none⟩) (H26.out g cs hne_ h) hne_ _) hg (Kd.R_ne HO1.out (blk_far (p := ⟨gw, 0, none⟩) (H26.out g cs hne_ h) hne_ (.slice E0 y0.length f0)) (by decide))⟩; have nbk_ := blk_put (cs' := #[.slice E0 y0.length f0, .slice E1 y1.length f1, .int .i64 o, .int .i64 b]) hbk 1 (.slice E1 y1.length f1) rfl; have nho0 := Aside0.mk (Kd.R_mono (Kd.R_set ho1 hbk (by decide) 1 (.slice E1 y1.length f1)) (fun _ hk => hk.2)); have nho1 := Aside0.mk (Kd.R_set ho hbk (by decide) 1 (.slice E1 y1.length f1)); have nbb_ : Aside0 (Below B w0 (w2.setCell ⟨gw, 1, none⟩ (.slice E1 y1.length f1))) := ⟨hbb.out.setCell (p := ⟨gw, 1, none⟩) HBA.out.2.2 _⟩; clear HO0 HO1 HBB BK hc0 hc1 hf0 hb hg hat ho ho1 hbb; have BK := Aside0.mk nbk_; have HBB := nbb_; have HO0 := nho0; have HO1 := nho1; clear nho0 nho1 nbk_ nbb_; have hc0 := (blk_cell hbk 0).trans (show _ = some (Value.slice E0 y0.length f0) from rfl); have hc1 := (blk_cell hbk 1).trans (show _ = some (Value.slice A1 l1.length d1) from rfl); have hf1 := blk_frozen hbk 1; clear hbk) | (go_at_call 42; refine (set_at w0 (w2.setCell ⟨gw, 1, none⟩ (.slice E1 y1.length f1)) base B gw _ _ y0 y1 o b (wrap64 ((y0.length : Int) - 1)) n s sv HSV.out BK.out HO0.out HO1.out HBB.out HBA.out.1 (by rw [HWX.out]; omega) (by rw [HWX.out, Y0.out]; simp; omega) (by rw [HWX.out, Y1.out]; have := HL.out; simp; omega)).mono ?_; rintro e w' ⟨rfl, hv⟩; have HV := Aside0.mk hv; clear hv))
  go_end0
  refine ⟨rfl, ?_⟩
  obtain ⟨v0, v1, z1, z2, z3, z4, z5, z6⟩ := HV.out
  have es : y0.set (wrap64 ((y0.length : Int) - 1)).toNat n = l0 ++ [n] := by
    rw [HWX.out, Int.toNat_natCast, Y0.out, List.set_append_right _ _ (Nat.le_refl _), Nat.sub_self]
    rfl
  have et : y1.set (wrap64 ((y0.length : Int) - 1)).toNat sv = l1 ++ [sv] := by
    rw [HWX.out, Int.toNat_natCast, Y1.out, HL.out.1, List.set_append_right _ _ (Nat.le_refl _), Nat.sub_self]
    rfl
  rw [es] at z2
  rw [et] at z3
  exact ⟨v0, v1, z1, z2, z3, fun g cs hg h => z4 g cs hg (blk_far (p := ⟨gw, 1, none⟩) (H262.out g cs hg h) hg _), by have := SZ2.out; simp at z5; omega, z6⟩
def del_ren : Go.Shelf.Ren := ⟨fun | 45 => 49 | n => n, fun | 0 => 0 | 3 => 3 | 4 => 4 | 22 => 22 | 23 => 3 | n => n, fun n => n⟩
theorem del_lays : Go.Proofs.SlLaysN.n45 Try.prog del_ren := { mixed := by kernel_rfl, f45 := ⟨Try.f49.name, by decide, Try.func49.trans (congrArg some (by kernel_rfl))⟩, t0 := Try.underlying0, a0 := Try.isAgg0, z0 := Try.sizeOf0, v0 := Try.zeroValue0, t3 := Try.underlying3, a3 := Try.isAgg3, z3 := Try.sizeOf3, v3 := Try.zeroValue3, t4 := Try.underlying4, a4 := Try.isAgg4, z4 := Try.sizeOf4, v4 := Try.zeroValue4, t22 := Try.underlying22, a22 := Try.isAgg22, z22 := Try.sizeOf22, v22 := Try.zeroValue22, t23 := Try.underlying3, a23 := Try.isAgg3, z23 := Try.sizeOf3, v23 := Try.zeroValue3, i23 := by kernel_rfl }
section
open Go.Sort
/-- A row of one's own whose cells were laid anew, cut to its first m. -/
theorem row_laid {e : Nat} {w : World} {base : Nat} {ok : Nat → Prop} {g n cap : Nat} {xs : List Int} (h : Kd.R (Kd.int .i64) e w base ok (.slice (some ⟨g, 0, none⟩) n cap) xs) (ys : List Int) (hy : ys.length = xs.length) (m : Nat) (hm : m ≤ ys.length) (q : Nat) :
    Kd.R (Kd.int .i64) e (putRow (Value.int .i64) (Sort.ahead w q) g 0 ys.toArray) base ok (.slice (some ⟨g, 0, none⟩) m cap) (ys.take m) := by
  obtain ⟨rfl, _, _⟩ := Kd.R_reads' h
  obtain ⟨h0, inner, ho, hr⟩ := h
  refine ⟨fun k hk => h0 k hk, encs (Value.int .i64) (ys.take m), ?_, Kd.reps_scalar _⟩
  refine ⟨by simp [encs, Kd.int, Kd.scalar], ?_⟩
  rcases ho.2 with ⟨h1, _⟩ | ⟨g', cap', cur, he, hb, hh, hnc, hcm, hcs, ht⟩
  · cases h1
  · injection he with ha hx hc
    injection ha with ha
    injection ha with hg _
    subst hg
    subst hc
    have e1 : (Kd.int .i64).sz = 1 := rfl
    rw [e1] at hcs ht
    have hl : (ys.take m).length = m := by simp; omega
    refine .inr ⟨g, cap, putCells (Value.int .i64) 0 ys.toArray cur, by rw [hl], hb, ?_, by rw [hl]; omega, hcm, by rw [putCells, Array.size_mapIdx, hcs, e1], ?_⟩
    · show ((Sort.ahead w q).heap.modify g _)[g]? = _
      have hlt := (Array.getElem?_eq_some_iff.1 hh).1
      rw [Array.getElem?_modify, if_pos rfl]
      show (w.heap[g]?).map _ = _
      rw [hh]
      rfl
    · rw [hl, e1, Nat.mul_one]
      apply List.ext_getElem?
      intro i
      simp only [encs, putCells]
      rw [List.getElem?_take, List.getElem?_map, List.getElem?_take]
      by_cases hi : i < m
      · rw [if_pos hi, if_pos hi, Array.getElem?_toList, Array.getElem?_mapIdx]
        have hic : i < cur.size := by omega
        rw [Array.getElem?_eq_getElem hic, Option.map_some, if_pos ⟨Nat.zero_le _, by simp; omega⟩, List.getElem?_eq_getElem (by omega : i < ys.length), Option.map_some, Nat.sub_zero, getElem!_pos ys.toArray i (by simp; omega)]
        simp
      · rw [if_neg hi, if_neg hi]
        rfl
theorem laid_other {α : Type} [Inhabited α] (enc : α → Value) (w : World) (q g : Nat) (d : Array α) (k : Nat) (hk : k ≠ g) : (putRow enc (Sort.ahead w q) g 0 d).heap[k]? = w.heap[k]? := by
  show ((Sort.ahead w q).heap.modify g _)[k]? = _
  rw [Array.getElem?_modify, if_neg (fun e => hk e.symm)]
  rfl
theorem laid_size {α : Type} [Inhabited α] (enc : α → Value) (w : World) (q g : Nat) (d : Array α) : (putRow enc (Sort.ahead w q) g 0 d).heap.size = w.heap.size := by
  show ((Sort.ahead w q).heap.modify g _).size = _
  rw [Array.size_modify]
  rfl
theorem laid_grown {α : Type} [Inhabited α] (enc : α → Value) (w : World) (q g : Nat) (d : Array α) : w.grownBy (putRow enc (Sort.ahead w q) g 0 d) (some g) :=
  ⟨rfl, rfl, rfl, by rw [laid_size]; exact Nat.le_refl _, fun k _ hk => laid_other enc w q g d k (fun e => hk (by rw [e]))⟩
theorem holds_of_row {e : Nat} {w : World} {base : Nat} {ok : Nat → Prop} {g n cap : Nat} {xs : List Int} (h : Kd.R (Kd.int .i64) e w base ok (.slice (some ⟨g, 0, none⟩) n cap) xs) : Holds (Value.int .i64) w g 0 xs.toArray := by
  obtain ⟨rfl, _, _⟩ := Kd.R_reads' h
  intro j hj
  have hj' : j < xs.length := by simpa using hj
  obtain ⟨h1, h2⟩ := Kd.R_celln 0 h (j : Int) (by omega) (by omega)
  rw [Nat.zero_add]
  rw [Int.toNat_natCast] at h1 h2
  refine ⟨?_, h2⟩
  rw [h1, getElem!_pos xs.toArray j hj]
  unfold rdOf
  rw [List.getD_eq_getElem?_getD, Int.toNat_natCast, List.getElem?_eq_getElem hj', Option.getD_some]
  simp
/-- slices.Delete of one element, over a row of one's own. -/
theorem del_row {w : World} {base : Nat} {ok : Nat → Prop} {g cap i : Nat} {l : List Int} (h : Kd.R (Kd.int .i64) 3 w base ok (.slice (some ⟨g, 0, none⟩) l.length cap) l) (hi : i < l.length) :
    Calls Try.prog 49 #[.slice (some ⟨g, 0, none⟩) l.length cap, .int .i64 (i : Int), .int .i64 ((i : Int) + 1)] w fun e w' => e = .returned (.slice (some ⟨g, 0, none⟩) (l.eraseIdx i).length cap) ∧
      Kd.R (Kd.int .i64) 3 w' base ok (.slice (some ⟨g, 0, none⟩) (l.eraseIdx i).length cap) (l.eraseIdx i) ∧ w.grownBy w' (some g) := by
  obtain ⟨_, hcap, _⟩ := Kd.R_reads' h
  have hm : cap ≤ 9223372036854775807 := by
    obtain ⟨inner, ho⟩ := Kd.R_own h
    rcases ho.2 with ⟨h1, _⟩ | ⟨g', cap', cur, he, hb, hh, hnc, hcm, hcs, ht⟩
    · cases h1
    · injection he with _ _ hc
      subst hc
      exact hcm
  have hc := Go.Proofs.AnyG.slices_Delete_int del_lays g 0 cap i (i + 1) l w (holds_of_row h) hcap hm (by omega) (by omega)
  have el : (l.eraseIdx i).length = l.length - 1 := List.length_eraseIdx_of_lt hi
  have ee : (l.take i ++ l.drop (i + 1) ++ List.replicate (i + 1 - i) 0).take (l.length - 1) = l.eraseIdx i := by
    rw [List.eraseIdx_eq_take_drop_succ, List.take_append_of_le_length (by simp; omega), List.take_of_length_le (by simp; omega)]
  refine hc.mono ?_
  rintro e w' ⟨rfl, q, rfl⟩
  have hr := row_laid h (l.take i ++ l.drop (i + 1) ++ List.replicate (i + 1 - i) 0) (by simp; omega) (l.length - 1) (by simp; omega) q
  rw [ee] at hr
  rw [el]
  refine ⟨by rw [show i + 1 - i = 1 by omega], hr, ?_⟩
  exact laid_grown _ w q g _
end
set_option maxHeartbeats 2000000 in
set_option maxRecDepth 100000 in
theorem diag_no (gw q1 q2 : Nat) (A0 A1 : Option Addr) (c0 n0 c1 n1 : Nat) (o b x y : Int) (w : World)
    (hp : w.heap[gw]? = some (.cells #[.slice A0 n0 c0, .slice A1 n1 c1, .int .i64 o, .int .i64 b] 26 (0, 0)))
    (k1 : w.cell? ⟨q1, 0, none⟩ = some (.int .i64 x)) (k2 : w.cell? ⟨q2, 0, none⟩ = some (.int .i64 y))
    (h : ¬ (0 ≤ x ∧ x < (n0 : Int)) ∨ ¬ (0 ≤ y ∧ y < (n0 : Int)) ∨ x = y) :
    Calls Try.prog 48 #[.pointer (some ⟨gw, 0, none⟩), .pointer (some ⟨q1, 0, none⟩), .pointer (some ⟨q2, 0, none⟩)] w fun e w' => e = .returned (.bool false) ∧ ∃ m, w' = w.drewN m := by
  have hc0 := (blk_cell hp 0).trans (show _ = some (Value.slice A0 n0 c0) from rfl)
  clear hp
  by_cases h1 : 0 ≤ x ∧ x < (n0 : Int)
  · have HA := decide_eq_true h1
    by_cases h2 : 0 ≤ y ∧ y < (n0 : Int)
    · have HC := decide_eq_true h2
      have h3b : (x == y) = true := beq_iff_eq.mpr (by rcases h with h | h | h; exact absurd h1 h; exact absurd h2 h; exact h)
      clear h h1 h2
      go_enter Try.func48, Try.ntmps48
      go_wp2
      go_quiet ((go_at_call 41; exact Calls.quiet_of_same ((isAxis_calls _ _ _ _ _ _ rfl).mono (fun e w' h => ⟨h.1, h.2.symm⟩))))
      go_wp2
      go_ret
      exact ⟨rfl, _, rfl⟩
    · have HC := decide_eq_false h2
      clear h h1 h2
      go_enter Try.func48, Try.ntmps48
      go_wp2
      go_quiet ((go_at_call 41; exact Calls.quiet_of_same ((isAxis_calls _ _ _ _ _ _ rfl).mono (fun e w' h => ⟨h.1, h.2.symm⟩))))
      go_wp2
      go_ret
      exact ⟨rfl, _, rfl⟩
  · have HA := decide_eq_false h1
    clear h h1
    go_enter Try.func48, Try.ntmps48
    go_wp2
    go_quiet ((go_at_call 41; exact Calls.quiet_of_same ((isAxis_calls _ _ _ _ _ _ rfl).mono (fun e w' h => ⟨h.1, h.2.symm⟩))))
    go_wp2
    go_ret
    exact ⟨rfl, _, rfl⟩
/-- Where Diagonal's closure stands: a view in memory over two rows of its own, the two axes in a literal. -/
structure DSt (w0 W X : World) (base B gw g0 g1 d0 d1 gl : Nat) (hi lo o b : Int) (m0 m1 : List Int) : Prop where
  hp : X.heap[gw]? = some (.cells #[.slice (some ⟨g0, 0, none⟩) m0.length d0, .slice (some ⟨g1, 0, none⟩) m1.length d1, .int .i64 o, .int .i64 b] 26 (0, 0))
  r0 : Kd.R (Kd.int .i64) 3 X base (fun k_ => k_ ≠ g1) (.slice (some ⟨g0, 0, none⟩) m0.length d0) m0
  r1 : Kd.R (Kd.int .i64) 3 X base (fun k_ => k_ ≠ g0) (.slice (some ⟨g1, 0, none⟩) m1.length d1) m1
  k26 : ∀ (g : Nat) (cs : Array Value), g ≠ gw → W.heap[g]? = some (.cells cs 26 (0, 0)) → X.heap[g]? = some (.cells cs 26 (0, 0))
  size : W.heap.size ≤ X.heap.size
  below : Below B w0 X
  lit : X.heap[gl]? = some (.cells #[.int .i64 hi, .int .i64 lo] 3 (0, 0))
  ne0 : gl ≠ g0
  ne1 : gl ≠ g1
  bb : B ≤ base ∧ base ≤ W.heap.size ∧ B ≤ gw
section
variable {w0 W X : World} {base B gw g0 g1 d0 d1 gl : Nat} {hi lo o b : Int} {m0 m1 : List Int}
theorem DSt.c0 (S : DSt w0 W X base B gw g0 g1 d0 d1 gl hi lo o b m0 m1) : X.cell? ⟨gw, 0, none⟩ = some (.slice (some ⟨g0, 0, none⟩) m0.length d0) := (blk_cell S.hp 0).trans rfl
theorem DSt.c1 (S : DSt w0 W X base B gw g0 g1 d0 d1 gl hi lo o b m0 m1) : X.cell? ⟨gw, 1, none⟩ = some (.slice (some ⟨g1, 0, none⟩) m1.length d1) := (blk_cell S.hp 1).trans rfl
theorem DSt.l0 (S : DSt w0 W X base B gw g0 g1 d0 d1 gl hi lo o b m0 m1) : X.cell? ⟨gl, 0, none⟩ = some (.int .i64 hi) := (blk_cell S.lit 0).trans rfl
theorem DSt.l1 (S : DSt w0 W X base B gw g0 g1 d0 d1 gl hi lo o b m0 m1) : X.cell? ⟨gl, 1, none⟩ = some (.int .i64 lo) := (blk_cell S.lit 1).trans rfl
theorem DSt.del0 (S : DSt w0 W X base B gw g0 g1 d0 d1 gl hi lo o b m0 m1) (i : Nat) (h : i < m0.length) :
    Calls Try.prog 49 #[.slice (some ⟨g0, 0, none⟩) m0.length d0, .int .i64 (i : Int), .int .i64 ((i : Int) + 1)] X fun e w' => e = .returned (.slice (some ⟨g0, 0, none⟩) (m0.eraseIdx i).length d0) ∧
      w'.cell? ⟨gw, 0, none⟩ = some (.slice (some ⟨g0, 0, none⟩) m0.length d0) ∧ w'.frozen? ⟨gw, 0, none⟩ = false ∧
      DSt w0 W (w'.setCell ⟨gw, 0, none⟩ (.slice (some ⟨g0, 0, none⟩) (m0.eraseIdx i).length d0)) base B gw g0 g1 d0 d1 gl hi lo o b (m0.eraseIdx i) m1 := by
  refine (del_row S.r0 h).mono ?_
  rintro e w' ⟨rfl, hr, hg⟩
  obtain ⟨cs0, hc0⟩ := Kd.R_typed S.r0 g0 rfl
  have n0 : gw ≠ g0 := blk_ne S.hp hc0 (by decide)
  have n0' : some gw ≠ some g0 := fun e => n0 (Option.some.inj e)
  have hp' := blk_grown S.hp hg n0'
  have hb0 := Kd.R_base S.r0 g0 rfl
  have hl := blk_grown S.lit hg (fun e => S.ne0 (Option.some.inj e))
  have nl : gl ≠ gw := blk_ne hl hp' (by decide)
  refine ⟨rfl, (blk_cell hp' 0).trans rfl, blk_frozen hp' 0, ⟨?_, Kd.R_set hr hp' (by decide) 0 _, Kd.R_set (Kd.R_grown S.r1 hg (fun k hk e => hk (Option.some.inj e))) hp' (by decide) 0 _, ?_, ?_, ?_, ?_, S.ne0, S.ne1, S.bb⟩⟩
  · exact blk_put hp' 0 _ rfl
  · intro g cs hgw h26
    have h1 := S.k26 g cs hgw h26
    have h2 : g ≠ g0 := blk_ne h1 hc0 (by decide)
    exact blk_far (p := ⟨gw, 0, none⟩) (blk_grown h1 hg (fun e => h2 (Option.some.inj e))) hgw _
  · have := S.size
    have := hg.size
    simp
    omega
  · have h1 := S.size
    exact (S.below.grown hg (by have := S.bb; omega) (fun k e => by cases e; have := S.bb.1; omega)).setCell (p := ⟨gw, 0, none⟩) S.bb.2.2 _
  · exact blk_far (p := ⟨gw, 0, none⟩) hl nl _
theorem DSt.del1 (S : DSt w0 W X base B gw g0 g1 d0 d1 gl hi lo o b m0 m1) (i : Nat) (h : i < m1.length) :
    Calls Try.prog 49 #[.slice (some ⟨g1, 0, none⟩) m1.length d1, .int .i64 (i : Int), .int .i64 ((i : Int) + 1)] X fun e w' => e = .returned (.slice (some ⟨g1, 0, none⟩) (m1.eraseIdx i).length d1) ∧
      w'.cell? ⟨gw, 1, none⟩ = some (.slice (some ⟨g1, 0, none⟩) m1.length d1) ∧ w'.frozen? ⟨gw, 1, none⟩ = false ∧
      DSt w0 W (w'.setCell ⟨gw, 1, none⟩ (.slice (some ⟨g1, 0, none⟩) (m1.eraseIdx i).length d1)) base B gw g0 g1 d0 d1 gl hi lo o b m0 (m1.eraseIdx i) := by
  refine (del_row S.r1 h).mono ?_
  rintro e w' ⟨rfl, hr, hg⟩
  obtain ⟨cs0, hc0⟩ := Kd.R_typed S.r1 g1 rfl
  have n0 : gw ≠ g1 := blk_ne S.hp hc0 (by decide)
  have n0' : some gw ≠ some g1 := fun e => n0 (Option.some.inj e)
  have hp' := blk_grown S.hp hg n0'
  have hb0 := Kd.R_base S.r1 g1 rfl
  have hl := blk_grown S.lit hg (fun e => S.ne1 (Option.some.inj e))
  have nl : gl ≠ gw := blk_ne hl hp' (by decide)
  refine ⟨rfl, (blk_cell hp' 1).trans rfl, blk_frozen hp' 1, ⟨?_, Kd.R_set (Kd.R_grown S.r0 hg (fun k hk e => hk (Option.some.inj e))) hp' (by decide) 1 _, Kd.R_set hr hp' (by decide) 1 _, ?_, ?_, ?_, ?_, S.ne0, S.ne1, S.bb⟩⟩
  · exact blk_put hp' 1 _ rfl
  · intro g cs hgw h26
    have h1 := S.k26 g cs hgw h26
    have h2 : g ≠ g1 := blk_ne h1 hc0 (by decide)
    exact blk_far (p := ⟨gw, 1, none⟩) (blk_grown h1 hg (fun e => h2 (Option.some.inj e))) hgw _
  · have := S.size
    have := hg.size
    simp
    omega
  · have h1 := S.size
    exact (S.below.grown hg (by have := S.bb; omega) (fun k e => by cases e; have := S.bb.1; omega)).setCell (p := ⟨gw, 1, none⟩) S.bb.2.2 _
  · exact blk_far (p := ⟨gw, 1, none⟩) hl nl _
end
set_option maxHeartbeats 2000000 in
set_option maxRecDepth 100000 in
theorem diag_yes (w0 W : World) (base B gw q1 q2 g0 g1 d0 d1 : Nat) (l0 l1 : List Int) (o b x y n s sv : Int) (hi lo : Nat) (hn : n = mn (rd l0 x) (rd l0 y)) (hs : s = wrap64 (rd l1 x + rd l1 y)) (hsv : sv = if n = 1 then 0 else s)
    (hhi : mx x y = (hi : Int)) (hlo : mn x y = (lo : Int)) (hlt : lo < hi)
    (hp : W.heap[gw]? = some (.cells #[.slice (some ⟨g0, 0, none⟩) l0.length d0, .slice (some ⟨g1, 0, none⟩) l1.length d1, .int .i64 o, .int .i64 b] 26 (0, 0)))
    (h0 : Kd.R (Kd.int .i64) 3 W base (fun k_ => some k_ ≠ (.slice (some ⟨g1, 0, none⟩) l1.length d1 : Value).ownBlock) (.slice (some ⟨g0, 0, none⟩) l0.length d0) l0) (h1 : Kd.R (Kd.int .i64) 3 W base (fun k_ => some k_ ≠ (.slice (some ⟨g0, 0, none⟩) l0.length d0 : Value).ownBlock) (.slice (some ⟨g1, 0, none⟩) l1.length d1) l1)
    (hB : Below B w0 W) (hbase : B ≤ base) (hbs : base ≤ W.heap.size) (hgw : B ≤ gw)
    (k1 : W.cell? ⟨q1, 0, none⟩ = some (.int .i64 x)) (k2 : W.cell? ⟨q2, 0, none⟩ = some (.int .i64 y))
    (hx : 0 ≤ x ∧ x < (l0.length : Int)) (hy : 0 ≤ y ∧ y < (l0.length : Int)) (hxy : x ≠ y) (hl : l0.length = l1.length) (hl2 : l0.length ≤ 1000) :
    Calls Try.prog 48 #[.pointer (some ⟨gw, 0, none⟩), .pointer (some ⟨q1, 0, none⟩), .pointer (some ⟨q2, 0, none⟩)] W fun e W' => e = .returned (.bool true) ∧ ViewAt w0 W base B gw ((l0.eraseIdx hi).eraseIdx lo ++ [n]) ((l1.eraseIdx hi).eraseIdx lo ++ [sv]) o b W' := by
  have hc0 := (blk_cell hp 0).trans (show _ = some (Value.slice (some ⟨g0, 0, none⟩) l0.length d0) from rfl)
  have hc1 := (blk_cell hp 1).trans (show _ = some (Value.slice (some ⟨g1, 0, none⟩) l1.length d1) from rfl)
  have x0 : W.cell? ⟨g0, x.toNat, none⟩ = some (.int .i64 (rd l0 x)) := (Kd.R_celln 0 h0 x hx.1 hx.2).1
  have y0 : W.cell? ⟨g0, y.toNat, none⟩ = some (.int .i64 (rd l0 y)) := (Kd.R_celln 0 h0 y hy.1 hy.2).1
  have x1 : W.cell? ⟨g1, x.toNat, none⟩ = some (.int .i64 (rd l1 x)) := (Kd.R_celln 0 h1 x hx.1 (by omega)).1
  have y1 : W.cell? ⟨g1, y.toNat, none⟩ = some (.int .i64 (rd l1 y)) := (Kd.R_celln 0 h1 y hy.1 (by omega)).1
  have HA := decide_eq_true hx
  have HC := decide_eq_true hy
  have hxy' : (x == y) = false := beq_eq_false_iff_ne.mpr hxy
  have bx : decide (x < (l0.length : Int)) = true := decide_eq_true hx.2
  have bx0 : decide (0 ≤ x) = true := decide_eq_true hx.1
  have b1 : x < (l0.length : Int) := hx.2
  have b2 : y < (l0.length : Int) := hy.2
  have b3 : x < (l1.length : Int) := by omega
  have b4 : y < (l1.length : Int) := by omega
  have b5 : 0 ≤ x := hx.1
  have b6 : 0 ≤ y := hy.1
  have HP := Aside0.mk hp
  have HO0 := Aside0.mk h0
  have HO1 := Aside0.mk h1
  have HBB := Aside0.mk hB
  have HBA := Aside0.mk (And.intro hbase (And.intro hbs hgw))
  have HL := Aside0.mk (And.intro hl hl2)
  have e1 : (if rd l0 y < rd l0 x then rd l0 y else rd l0 x) = n := by rw [hn]; rfl
  have e2 : (if x < y then y else x) = (hi : Int) := hhi
  have e3 : (if y < x then y else x) = (lo : Int) := hlo
  have hsum : hi < l0.length := by have h_ := hhi; unfold mx at h_; split at h_ <;> omega
  have HI10 := Aside0.mk hsum
  have HI11 : Aside0 (hi < l1.length) := ⟨by omega⟩
  have HI20 : Aside0 (lo < (l0.eraseIdx hi).length) := ⟨by rw [List.length_eraseIdx_of_lt hsum]; omega⟩
  have HI21 : Aside0 (lo < (l1.eraseIdx hi).length) := ⟨by rw [List.length_eraseIdx_of_lt (by omega)]; omega⟩
  have LL : Aside0 (((l0.eraseIdx hi).eraseIdx lo).length = ((l1.eraseIdx hi).eraseIdx lo).length ∧ ((l0.eraseIdx hi).eraseIdx lo).length ≤ 1000) := ⟨by
    rw [List.length_eraseIdx_of_lt HI20.out, List.length_eraseIdx_of_lt HI21.out, List.length_eraseIdx_of_lt hsum, List.length_eraseIdx_of_lt HI11.out]
    omega⟩
  have HW : Aside0 (wrap64 ((hi : Int) + 1) = (hi : Int) + 1 ∧ wrap64 ((lo : Int) + 1) = (lo : Int) + 1) := ⟨by unfold wrap64; omega⟩
  have SV : Aside0 (sv = if n = 1 then 0 else wrap64 (rd l1 x + rd l1 y)) := ⟨by rw [hsv, hs]⟩
  clear hsum
  have HN := Aside0.mk (And.intro hn (And.intro hs (And.intro hsv (And.intro hhi (And.intro hlo hlt)))))
  clear hp h0 h1 hB hbase hbs hgw hl hl2 hn hs hsv hhi hlo hlt hxy hx hy
  go_enter Try.func48, Try.ntmps48
  go_wp2
  go_quiet ((go_at_call 41; exact Calls.quiet_of_same ((isAxis_calls _ _ _ _ _ _ rfl).mono (fun e w' h => ⟨h.1, h.2.symm⟩))))
  go_wp2
  go_quiet (fail)
  go_wp2
  have hwh : wrap64 ((hi : Int) + 1) = (hi : Int) + 1 := HW.out.1
  have hwl : wrap64 ((lo : Int) + 1) = (lo : Int) + 1 := HW.out.2
  generalize hX : World.alloc _ _ = X
  have S0 : Aside0 (DSt w0 W X base B gw g0 g1 d0 d1 W.heap.size hi lo o b l0 l1) := by
    obtain ⟨cs0, u0⟩ := Kd.R_typed HO0.out g0 rfl
    obtain ⟨cs1, u1⟩ := Kd.R_typed HO1.out g1 rfl
    have v0 := blk_lt u0
    have v1 := blk_lt u1
    refine ⟨?_⟩
    rw [← hX]
    exact ⟨blk_alloc (blk_drewN HP.out _) _, Kd.R_mono (Kd.R_alloc (Kd.R_drewN HO0.out _) _) (fun k h e => h (by rw [e]; rfl)), Kd.R_mono (Kd.R_alloc (Kd.R_drewN HO1.out _) _) (fun k h e => h (by rw [e]; rfl)), fun g cs _ h => blk_alloc (blk_drewN h _) _, by simp, (pw_below_drewN HBB.out _).alloc (by have := HBA.out; simp; omega) _, heap_alloc_new _ _, by omega, by omega, HBA.out.1, HBA.out.2.1, HBA.out.2.2⟩
  clear hX hc0 hc1 x0 y0 x1 y1 HP HO0 HO1 HBB
  have kc0 := S0.out.c0
  have kc1 := S0.out.c1
  have kl0 := S0.out.l0
  have kl1 := S0.out.l1
  refine wp_loop_rounds 3 ?_
  rw [rounds_succ]
  go_wp2_with (first | (go_at_call 49; refine (S0.out.del0 hi ?hh).mono ?_; (case hh => exact HI10.out); rintro e w1 ⟨rfl, z0, zf, z⟩; have Z := Aside0.mk z; clear z S0; clear kc0 kc1 kl0 kl1) | ((with_reducible refine gate_store (t := 22) (p := 82) rfl ?_); (refine store_event (t := 22) (p := 82) (v := ?vo_w2) (w1 := (World.setCell w1 ⟨gw, 0, none⟩ (.slice (some ⟨g0, 0, none⟩) ((l0.eraseIdx hi)).length d0))) ?hg ?ho ?hn ?hr ?_; (case ho => rfl); (case hg => rfl); (case hn => rfl); (case hr => first | (go_simp; done) | (go_simp; rfl)); intro w2 hw; have S1 : Aside0 (DSt w0 W w2 base B gw g0 g1 d0 d1 W.heap.size hi lo o b (l0.eraseIdx hi) l1) := ⟨by rw [hw]; exact Z.out⟩; clear Z z0 zf hw; have pc0 := S1.out.c0; have pc1 := S1.out.c1; have pl0 := S1.out.l0; have pl1 := S1.out.l1)) | (go_at_call 49; refine (S1.out.del1 hi ?hh).mono ?_; (case hh => exact HI11.out); rintro e w3 ⟨rfl, z0, zf, z⟩; have Z := Aside0.mk z; clear z S1; clear pc0 pc1 pl0 pl1) | ((with_reducible refine gate_store (t := 22) (p := 93) rfl ?_); (refine store_event (t := 22) (p := 93) (v := ?vo_w4) (w1 := (World.setCell w3 ⟨gw, 1, none⟩ (.slice (some ⟨g1, 0, none⟩) ((l1.eraseIdx hi)).length d1))) ?hg ?ho ?hn ?hr ?_; (case ho => rfl); (case hg => rfl); (case hn => rfl); (case hr => first | (go_simp; done) | (go_simp; rfl)); intro w4 hw; have S2 : Aside0 (DSt w0 W w4 base B gw g0 g1 d0 d1 W.heap.size hi lo o b (l0.eraseIdx hi) (l1.eraseIdx hi)) := ⟨by rw [hw]; exact Z.out⟩; clear Z z0 zf hw; have qc0 := S2.out.c0; have qc1 := S2.out.c1; have ql0 := S2.out.l0; have ql1 := S2.out.l1)))
  rw [rounds_succ]
  go_wp2_with (first | (go_at_call 49; refine (S2.out.del0 lo ?hh).mono ?_; (case hh => exact HI20.out); rintro e w5 ⟨rfl, z0, zf, z⟩; have Z := Aside0.mk z; clear z S2; clear qc0 qc1 ql0 ql1) | ((with_reducible refine gate_store (t := 22) (p := 82) rfl ?_); (refine store_event (t := 22) (p := 82) (v := ?vo_w6) (w1 := (World.setCell w5 ⟨gw, 0, none⟩ (.slice (some ⟨g0, 0, none⟩) (((l0.eraseIdx hi).eraseIdx lo)).length d0))) ?hg ?ho ?hn ?hr ?_; (case ho => rfl); (case hg => rfl); (case hn => rfl); (case hr => first | (go_simp; done) | (go_simp; rfl)); intro w6 hw; have S3 : Aside0 (DSt w0 W w6 base B gw g0 g1 d0 d1 W.heap.size hi lo o b ((l0.eraseIdx hi).eraseIdx lo) (l1.eraseIdx hi)) := ⟨by rw [hw]; exact Z.out⟩; clear Z z0 zf hw; have rc0 := S3.out.c0; have rc1 := S3.out.c1; have rl0 := S3.out.l0; have rl1 := S3.out.l1)) | (go_at_call 49; refine (S3.out.del1 lo ?hh).mono ?_; (case hh => exact HI21.out); rintro e w7 ⟨rfl, z0, zf, z⟩; have Z := Aside0.mk z; clear z S3; clear rc0 rc1 rl0 rl1) | ((with_reducible refine gate_store (t := 22) (p := 93) rfl ?_); (refine store_event (t := 22) (p := 93) (v := ?vo_w8) (w1 := (World.setCell w7 ⟨gw, 1, none⟩ (.slice (some ⟨g1, 0, none⟩) (((l1.eraseIdx hi).eraseIdx lo)).length d1))) ?hg ?ho ?hn ?hr ?_; (case ho => rfl); (case hg => rfl); (case hn => rfl); (case hr => first | (go_simp; done) | (go_simp; rfl)); intro w8 hw; have S4 : Aside0 (DSt w0 W w8 base B gw g0 g1 d0 d1 W.heap.size hi lo o b ((l0.eraseIdx hi).eraseIdx lo) ((l1.eraseIdx hi).eraseIdx lo)) := ⟨by rw [hw]; exact Z.out⟩; clear Z z0 zf hw; have sc0 := S4.out.c0; have sc1 := S4.out.c1; have sl0 := S4.out.l0; have sl1 := S4.out.l1)))
  rw [rounds_succ]
  go_wp2_with (first | (go_at_call 47; refine (put_at w0 w8 base B gw (some ⟨g0, 0, none⟩) (some ⟨g1, 0, none⟩) d0 d1 ((l0.eraseIdx hi).eraseIdx lo) ((l1.eraseIdx hi).eraseIdx lo) o b n (wrap64 (rd l1 x + rd l1 y)) sv SV.out S4.out.hp (Kd.R_mono S4.out.r0 (fun k h e => h (Option.some.inj e))) (Kd.R_mono S4.out.r1 (fun k h e => h (Option.some.inj e))) S4.out.below S4.out.bb.1 (Nat.le_trans S4.out.bb.2.1 S4.out.size) S4.out.bb.2.2 ?l1 ?l2).mono ?_; (case l1 => exact LL.out.1); (case l2 => exact LL.out.2); rintro e w9 ⟨rfl, hv⟩; have HV := Aside0.mk hv; clear hv))
  go_ret
  obtain ⟨v0, v1, z1, z2, z3, z4, z5, z6⟩ := HV.out
  exact ⟨rfl, v0, v1, z1, z2, z3, fun g cs hg h => z4 g cs hg (S4.out.k26 g cs hg h), Nat.le_trans S4.out.size z5, z6⟩
/-- What Diagonal's closure does to a view's numbers. -/
def impl_Diagonal.by (l0 l1 : List Int) (o b x y : Int) : Option (Bool × List Int × List Int × Int × Int) :=
  if ¬ (0 ≤ x ∧ x < (l0.length : Int)) ∨ ¬ (0 ≤ y ∧ y < (l0.length : Int)) ∨ x = y then some (false, l0, l1, o, b)
  else if ¬ (l0.length = l1.length ∧ l0.length ≤ 1000) then none
  else some (true, (l0.eraseIdx (mx x y).toNat).eraseIdx (mn x y).toNat ++ [mn (rd l0 x) (rd l0 y)], (l1.eraseIdx (mx x y).toNat).eraseIdx (mn x y).toNat ++ [if mn (rd l0 x) (rd l0 y) = 1 then 0 else wrap64 (rd l1 x + rd l1 y)], o, b)
set_option maxHeartbeats 1000000 in
theorem impl_Diagonal.closure (wT W : World) (B q1 q2 : Nat) (x y : Int) (gw : Nat) (A0 A1 : Option Addr) (d0 d1 : Nat) (l0 l1 : List Int) (o b : Int) (rb : Bool) (m0 m1 : List Int) (m2 m3 : Int)
    (kk1 : wT.heap[q1]? = some (.cells #[.int .i64 x] 3 (0, 0))) (kk2 : wT.heap[q2]? = some (.cells #[.int .i64 y] 3 (0, 0)))
    (hBT : B ≤ wT.heap.size) (w0 : World) (hB0 : Below B w0 wT) (hbW : Below wT.heap.size wT W) (hgw : wT.heap.size ≤ gw)
    (hp : W.heap[gw]? = some (.cells #[.slice A0 l0.length d0, .slice A1 l1.length d1, .int .i64 o, .int .i64 b] 26 (0, 0)))
    (h0 : Kd.R (Kd.int .i64) 3 W wT.heap.size (fun k_ => some k_ ≠ (.slice A1 l1.length d1 : Value).ownBlock) (.slice A0 l0.length d0) l0) (h1 : Kd.R (Kd.int .i64) 3 W wT.heap.size (fun k_ => some k_ ≠ (.slice A0 l0.length d0 : Value).ownBlock) (.slice A1 l1.length d1) l1)
    (hf : impl_Diagonal.by l0 l1 o b x y = some (rb, m0, m1, m2, m3)) :
    Calls Try.prog 48 #[.pointer (some ⟨gw, 0, none⟩), .pointer (some ⟨q1, 0, none⟩), .pointer (some ⟨q2, 0, none⟩)] W (ViewBy w0 W wT.heap.size B gw rb m0 m1 m2 m3) := by
  have f1 := blk_below kk1 hbW
  have f2 := blk_below kk2 hbW
  have k1 : W.cell? ⟨q1, 0, none⟩ = some (.int .i64 x) := (blk_cell f1 0).trans rfl
  have k2 : W.cell? ⟨q2, 0, none⟩ = some (.int .i64 y) := (blk_cell f2 0).trans rfl
  have hBW : Below B w0 W := below_then hB0 hBT hbW
  have hsz := below_size hbW
  unfold impl_Diagonal.by at hf
  by_cases c1 : ¬ (0 ≤ x ∧ x < (l0.length : Int)) ∨ ¬ (0 ≤ y ∧ y < (l0.length : Int)) ∨ x = y
  · rw [if_pos c1] at hf
    simp only [Option.some.injEq, Prod.mk.injEq] at hf
    obtain ⟨rfl, rfl, rfl, rfl, rfl⟩ := hf
    refine (diag_no gw q1 q2 A0 A1 d0 l0.length d1 l1.length o b x y W hp k1 k2 c1).mono ?_
    rintro e w' ⟨rfl, m, rfl⟩
    exact ViewBy.same m false hp h0 h1 hBW
  · rw [if_neg c1] at hf
    by_cases c3 : ¬ (l0.length = l1.length ∧ l0.length ≤ 1000)
    · rw [if_pos c3] at hf
      cases hf
    · rw [if_neg c3] at hf
      have c4 : l0.length = l1.length ∧ l0.length ≤ 1000 := by
        by_cases z : l0.length = l1.length ∧ l0.length ≤ 1000
        · exact z
        · exact absurd z c3
      have hx : 0 ≤ x ∧ x < (l0.length : Int) := by
        by_cases z : 0 ≤ x ∧ x < (l0.length : Int)
        · exact z
        · exact absurd (Or.inl z) c1
      have hy : 0 ≤ y ∧ y < (l0.length : Int) := by
        by_cases z : 0 ≤ y ∧ y < (l0.length : Int)
        · exact z
        · exact absurd (Or.inr (Or.inl z)) c1
      have hxy : x ≠ y := fun z => c1 (Or.inr (Or.inr z))
      obtain ⟨g0, cap0, e0, b0, s0, cs0, hg0⟩ := Kd.R_form h0 (by omega)
      injection e0 with ea _ ec
      subst ea
      subst ec
      obtain ⟨g1, cap1, e1, b1, s1, cs1, hg1⟩ := Kd.R_form h1 (by omega)
      injection e1 with ea _ ec
      subst ea
      subst ec
      simp only [Option.some.injEq, Prod.mk.injEq] at hf
      obtain ⟨rfl, rfl, rfl, rfl, rfl⟩ := hf
      refine (diag_yes w0 W wT.heap.size B gw q1 q2 g0 g1 d0 d1 l0 l1 o b x y _ _ _ (mx x y).toNat (mn x y).toNat rfl rfl rfl (by unfold mx; split <;> omega) (by unfold mn; split <;> omega) (by unfold mx mn; split <;> split <;> omega) hp h0 h1 hBW hBT hsz (by omega) k1 k2 hx hy hxy c4.1 c4.2).mono ?_
      rintro e w' ⟨rfl, v0, v1, z1, z2, z3, z4, z5, z6⟩
      exact ⟨v0, v1, rfl, z1, z2, z3, z4, z5, z6⟩
def impl_Diagonal.f (k : Nat) (l0_0 : List Int) (l0_1 : List Int) (a0_2 : Int) (a0_3 : Int) (a1 : Int) (a2 : Int) : Option (List Int × List Int × Int × Int) :=
  (impl_ViewOk.f k l0_0 l0_1 a0_2 a0_3).bind fun t => if t = true then (slices_Clone_int_int.f l0_0).bind fun x0 => (slices_Clone_int_int.f l0_1).bind fun x1 => (impl_Diagonal.by x0 x1 a0_2 a0_3 a1 a2).bind fun q =>
    if q.1 = true then (impl_ViewOk.f k q.2.1 q.2.2.1 q.2.2.2.1 q.2.2.2.2).bind fun t2 => if t2 = true then some q.2 else some ([], [], 0, 0) else some ([], [], 0, 0) else some ([], [], 0, 0)
theorem impl_Diagonal.mono : ∀ a0 a1 a2 a3 b0 b1 k, LeO (impl_Diagonal.f k a0 a1 a2 a3 b0 b1) (impl_Diagonal.f (k + 1) a0 a1 a2 a3 b0 b1) := by
  intro a0 a1 a2 a3 b0 b1 k
  unfold impl_Diagonal.f
  repeat' first
      | (with_reducible exact impl_ViewOk.mono _ _ _ _ _)
      | (with_reducible exact LeO.refl _)
      | (with_reducible exact LeO.none _)
      | (with_reducible refine LeO.ite ?_ ?_)
      | (with_reducible refine LeO.bind ?_ (fun _ => ?_))

set_option maxHeartbeats 8000000 in
set_option maxRecDepth 100000 in
theorem impl_Diagonal.own (k : Nat) (A0_0 : Option Addr) (c0_0 : Nat) (l0_0 : List Int) (A0_1 : Option Addr) (c0_1 : Nat) (l0_1 : List Int) (a0_2 : Int) (a0_3 : Int) (a1 : Int) (a2 : Int) (r1 : List Int) (r2 : List Int) (r3 : Int) (r4 : Int) (w : World) (hr0_0 : Kd.C (Kd.int .i64) w A0_0 l0_0.length l0_0) (hc0_0 : l0_0.length ≤ c0_0) (hr0_1 : Kd.C (Kd.int .i64) w A0_1 l0_1.length l0_1) (hc0_1 : l0_1.length ≤ c0_1) (h : impl_Diagonal.f k l0_0 l0_1 a0_2 a0_3 a1 a2 = some (r1, r2, r3, r4)) :
    Calls Try.prog 19 #[.agg #[.slice A0_0 l0_0.length c0_0, .slice A0_1 l0_1.length c0_1, .int .i64 a0_2, .int .i64 a0_3], .int .i64 a1, .int .i64 a2] w fun e w' => ∃ v0_ v1_ : Value, e = .returned (.agg #[v0_, v1_, .int .i64 r3, .int .i64 r4]) ∧ Kd.R (Kd.int .i64) 3 w' w.heap.size (fun k_ => some k_ ≠ (v1_ : Value).ownBlock) v0_ r1 ∧ Kd.R (Kd.int .i64) 3 w' w.heap.size (fun k_ => some k_ ≠ (v0_ : Value).ownBlock) v1_ r2 ∧ Below w.heap.size w w' := by
  have hu26 := Try.underlying26
  have HR0_0 := Aside0.mk hr0_0
  have HC0_0 := Aside0.mk hc0_0
  have HR0_1 := Aside0.mk hr0_1
  have HC0_1 := Aside0.mk hc0_1
  clear hr0_0 hc0_0 hr0_1 hc0_1
  have HB := Aside0.mk (Below.refl w.heap.size w)
  unfold impl_Diagonal.f at h
  obtain ⟨t, hv, h⟩ := Option.bind_eq_some_iff.mp h
  have HV := Aside0.mk hv
  clear hv
  cases t with
  | false =>
    rw [if_neg (by simp)] at h
    simp only [Option.some.injEq, Prod.mk.injEq] at h
    obtain ⟨rfl, rfl, rfl, rfl⟩ := h
    have hmf : ∀ (fn : Fn) (first cap : Array Value) (w : World), (Instr.makeFunc fn first cap).run Try.prog w = .ok (.func fn first cap) w := fun _ _ _ _ => rfl
    go_enter Try.func19, Try.ntmps19
    go_wp2_with (first | ((with_reducible refine gate_dst (N := 3) rfl ?_); refine box_event ?hg (N := 3) ?hd (cs := #[.slice A0_0 l0_0.length c0_0, .slice A0_1 l0_1.length c0_1, .int .i64 a0_2, .int .i64 a0_3]) (t := 26) ?hr ?_; (case hd => rfl); (case hg => rfl); (case hr => first | (go_simp; done) | (go_simp; rfl)); intro gv hg_gv w_gv hbox hb; have ng_ := Aside0.mk (by rw [hg_gv]; exact (below_size (by repeat (first | (with_reducible first | exact HB.out | apply below_alloc | apply pw_below_drewN | apply below_drew1) | exact HB.out))) : w.heap.size ≤ gv); have nb_ := Aside0.mk (below_step (by repeat (first | (with_reducible first | exact HB.out | apply below_alloc | apply pw_below_drewN | apply below_drew1) | exact HB.out)) hb); clear HB ; have HB := nb_; clear nb_  hb; have BKv := Aside0.mk hbox; have GBKv := ng_; clear hbox ng_ hg_gv) | ((with_reducible refine gate_dst (N := 4) rfl ?_); refine box_event ?hg (N := 4) ?hd (cs := #[.int .i64 a1]) (t := 3) ?hr ?_; (case hd => rfl); (case hg => rfl); (case hr => first | (go_simp; done) | (go_simp; rfl)); intro gq1 hg_gq1 w_gq1 hbox hb; have ng_ := Aside0.mk (by rw [hg_gq1]; exact (below_size (by repeat (first | (with_reducible first | exact HB.out | apply below_alloc | apply pw_below_drewN | apply below_drew1) | exact HB.out))) : w.heap.size ≤ gq1); have nb_ := Aside0.mk (below_step (by repeat (first | (with_reducible first | exact HB.out | apply below_alloc | apply pw_below_drewN | apply below_drew1) | exact HB.out)) hb); have n0_ := Aside0.mk (blk_below (g := gv) (o := .cells #[.slice A0_0 l0_0.length c0_0, .slice A0_1 l0_1.length c0_1, .int .i64 a0_2, .int .i64 a0_3] 26 (0, 0)) (by (with_reducible repeat (first | refine blk_drewN ?_ _ | refine blk_drew ?_ | refine blk_alloc ?_ _)); exact BKv.out) hb); clear HB BKv; have HB := nb_; have BKv := n0_; clear nb_ n0_ hb; have BKgq1 := Aside0.mk hbox; have GBKgq1 := ng_; clear hbox ng_ hg_gq1) | ((with_reducible refine gate_dst (N := 5) rfl ?_); refine box_event ?hg (N := 5) ?hd (cs := #[.int .i64 a2]) (t := 3) ?hr ?_; (case hd => rfl); (case hg => rfl); (case hr => first | (go_simp; done) | (go_simp; rfl)); intro gq2 hg_gq2 w_gq2 hbox hb; have ng_ := Aside0.mk (by rw [hg_gq2]; exact (below_size (by repeat (first | (with_reducible first | exact HB.out | apply below_alloc | apply pw_below_drewN | apply below_drew1) | exact HB.out))) : w.heap.size ≤ gq2); have nb_ := Aside0.mk (below_step (by repeat (first | (with_reducible first | exact HB.out | apply below_alloc | apply pw_below_drewN | apply below_drew1) | exact HB.out)) hb); have n0_ := Aside0.mk (blk_below (g := gv) (o := .cells #[.slice A0_0 l0_0.length c0_0, .slice A0_1 l0_1.length c0_1, .int .i64 a0_2, .int .i64 a0_3] 26 (0, 0)) (by (with_reducible repeat (first | refine blk_drewN ?_ _ | refine blk_drew ?_ | refine blk_alloc ?_ _)); exact BKv.out) hb); have n1_ := Aside0.mk (blk_below (g := gq1) (o := .cells #[.int .i64 a1] 3 (0, 0)) (by (with_reducible repeat (first | refine blk_drewN ?_ _ | refine blk_drew ?_ | refine blk_alloc ?_ _)); exact BKgq1.out) hb); clear HB BKv BKgq1; have HB := nb_; have BKv := n0_; have BKgq1 := n1_; clear nb_ n0_ n1_ hb; have BKgq2 := Aside0.mk hbox; have GBKgq2 := ng_; clear hbox ng_ hg_gq2) | ((with_reducible refine gate_dst (N := 6) rfl ?_); refine box_event ?hg (N := 6) ?hd (cs := #[.slice none 0 0, .slice none 0 0, .int .i64 0, .int .i64 0]) (t := 26) ?hr ?_; (case hd => rfl); (case hg => rfl); (case hr => first | (go_simp; done) | (go_simp; rfl)); intro gr hg_gr w_gr hbox hb; have ng_ := Aside0.mk (by rw [hg_gr]; exact (below_size (by repeat (first | (with_reducible first | exact HB.out | apply below_alloc | apply pw_below_drewN | apply below_drew1) | exact HB.out))) : w.heap.size ≤ gr); have nb_ := Aside0.mk (below_step (by repeat (first | (with_reducible first | exact HB.out | apply below_alloc | apply pw_below_drewN | apply below_drew1) | exact HB.out)) hb); have n0_ := Aside0.mk (blk_below (g := gv) (o := .cells #[.slice A0_0 l0_0.length c0_0, .slice A0_1 l0_1.length c0_1, .int .i64 a0_2, .int .i64 a0_3] 26 (0, 0)) (by (with_reducible repeat (first | refine blk_drewN ?_ _ | refine blk_drew ?_ | refine blk_alloc ?_ _)); exact BKv.out) hb); have n1_ := Aside0.mk (blk_below (g := gq1) (o := .cells #[.int .i64 a1] 3 (0, 0)) (by (with_reducible repeat (first | refine blk_drewN ?_ _ | refine blk_drew ?_ | refine blk_alloc ?_ _)); exact BKgq1.out) hb); have n2_ := Aside0.mk (blk_below (g := gq2) (o := .cells #[.int .i64 a2] 3 (0, 0)) (by (with_reducible repeat (first | refine blk_drewN ?_ _ | refine blk_drew ?_ | refine blk_alloc ?_ _)); exact BKgq2.out) hb); clear HB BKv BKgq1 BKgq2; have HB := nb_; have BKv := n0_; have BKgq1 := n1_; have BKgq2 := n2_; clear nb_ n0_ n1_ n2_ hb; have BKr := Aside0.mk hbox; have GBKr := ng_; clear hbox ng_ hg_gr; have hcv0 : w_gr.cell? ⟨gv, 0, none⟩ = some (.slice A0_0 l0_0.length c0_0) := (blk_cell BKv.out 0).trans rfl; have hcv1 : w_gr.cell? ⟨gv, 1, none⟩ = some (.slice A0_1 l0_1.length c0_1) := (blk_cell BKv.out 1).trans rfl; have hcv2 : w_gr.cell? ⟨gv, 2, none⟩ = some (.int .i64 a0_2) := (blk_cell BKv.out 2).trans rfl; have hcv3 : w_gr.cell? ⟨gv, 3, none⟩ = some (.int .i64 a0_3) := (blk_cell BKv.out 3).trans rfl) | (go_at_call 39; refine (impl_turn.no k _ _ _ _ l0_0 _ _ l0_1 a0_2 a0_3 _ ?s1 HC0_0.out ?s3 HC0_1.out HV.out).mono ?_; (case s1 => repeat (first | exact (Kd.C_below HR0_0.out HB.out) | (with_reducible refine Kd.C_alloc ?_ _) | (with_reducible refine Kd.C_drewN ?_ _) | (with_reducible refine Kd.C_drew ?_))); (case s3 => repeat (first | exact (Kd.C_below HR0_1.out HB.out) | (with_reducible refine Kd.C_alloc ?_ _) | (with_reducible refine Kd.C_drewN ?_ _) | (with_reducible refine Kd.C_drew ?_))); rintro e w9 ⟨rfl, hb⟩; have nb_ := Aside0.mk (below_step (by repeat (first | (with_reducible first | exact HB.out | apply below_alloc | apply pw_below_drewN | apply below_drew1) | exact HB.out)) hb); have n0_ := Aside0.mk (blk_below (g := gv) (o := .cells #[.slice A0_0 l0_0.length c0_0, .slice A0_1 l0_1.length c0_1, .int .i64 a0_2, .int .i64 a0_3] 26 (0, 0)) (by (with_reducible repeat (first | refine blk_drewN ?_ _ | refine blk_drew ?_ | refine blk_alloc ?_ _)); exact BKv.out) hb); have n1_ := Aside0.mk (blk_below (g := gq1) (o := .cells #[.int .i64 a1] 3 (0, 0)) (by (with_reducible repeat (first | refine blk_drewN ?_ _ | refine blk_drew ?_ | refine blk_alloc ?_ _)); exact BKgq1.out) hb); have n2_ := Aside0.mk (blk_below (g := gq2) (o := .cells #[.int .i64 a2] 3 (0, 0)) (by (with_reducible repeat (first | refine blk_drewN ?_ _ | refine blk_drew ?_ | refine blk_alloc ?_ _)); exact BKgq2.out) hb); have n3_ := Aside0.mk (blk_below (g := gr) (o := .cells #[.slice none 0 0, .slice none 0 0, .int .i64 0, .int .i64 0] 26 (0, 0)) (by (with_reducible repeat (first | refine blk_drewN ?_ _ | refine blk_drew ?_ | refine blk_alloc ?_ _)); exact BKr.out) hb); clear HB BKv BKgq1 BKgq2 BKr; have HB := nb_; have BKv := n0_; have BKgq1 := n1_; have BKgq2 := n2_; have BKr := n3_; clear nb_ n0_ n1_ n2_ n3_ hb; have hcr0 : w9.cell? ⟨gr, 0, none⟩ = some (.slice none 0 0) := (blk_cell BKr.out 0).trans rfl; have hcr1 : w9.cell? ⟨gr, 1, none⟩ = some (.slice none 0 0) := (blk_cell BKr.out 1).trans rfl; have hcr2 : w9.cell? ⟨gr, 2, none⟩ = some (.int .i64 0) := (blk_cell BKr.out 2).trans rfl; have hcr3 : w9.cell? ⟨gr, 3, none⟩ = some (.int .i64 0) := (blk_cell BKr.out 3).trans rfl; have hcrf0 := blk_frozen BKr.out 0; have hcrf1 := blk_frozen BKr.out 1; have hcrf2 := blk_frozen BKr.out 2; have hcrf3 := blk_frozen BKr.out 3))
    refine bodyPost_ret (results_cell_row rfl _ _ gr 26 #[.slice none 0 0, .slice none 0 0, .int .i64 0, .int .i64 0] (0, 0) _ rfl (by (with_reducible repeat (first | refine blk_drewN ?_ _ | refine blk_drew ?_)); refine blk_put (cs := #[.slice none 0 0, .slice none 0 0, .int .i64 0, .int .i64 0]) ?_ 3 _ rfl; (with_reducible repeat (first | refine blk_drewN ?_ _ | refine blk_drew ?_)); refine blk_put (cs := #[.slice none 0 0, .slice none 0 0, .int .i64 0, .int .i64 0]) ?_ 2 _ rfl; (with_reducible repeat (first | refine blk_drewN ?_ _ | refine blk_drew ?_)); refine blk_put (cs := #[.slice none 0 0, .slice none 0 0, .int .i64 0, .int .i64 0]) ?_ 1 _ rfl; (with_reducible repeat (first | refine blk_drewN ?_ _ | refine blk_drew ?_)); refine blk_put (cs := #[.slice none 0 0, .slice none 0 0, .int .i64 0, .int .i64 0]) ?_ 0 _ rfl; (with_reducible repeat (first | refine blk_drewN ?_ _ | refine blk_drew ?_)); exact BKr.out) Try.underlying26 rfl (by kernel_rfl)) rfl ?_
    exact ⟨_, _, rfl, Kd.R_nil _ _ _ _ _, Kd.R_nil _ _ _ _ _, by repeat (first | (with_reducible first | exact HB.out | apply below_alloc | apply pw_below_drewN | apply below_drew1 | refine below_set ?_ GBKr.out) | exact HB.out)⟩
  | true =>
    rw [if_pos rfl] at h
    obtain ⟨x0, hl0, h⟩ := Option.bind_eq_some_iff.mp h
    obtain ⟨x1, hl1, h⟩ := Option.bind_eq_some_iff.mp h
    obtain ⟨⟨rb, m0, m1, m2, m3⟩, hf, h⟩ := Option.bind_eq_some_iff.mp h
    obtain rfl : l0_0 = x0 := by
      unfold slices_Clone_int_int.f at hl0
      split at hl0
      · exact Option.some.inj hl0
      · cases hl0
    obtain rfl : l0_1 = x1 := by
      unfold slices_Clone_int_int.f at hl1
      split at hl1
      · exact Option.some.inj hl1
      · cases hl1
    obtain ⟨t2, hv2, hres⟩ : ∃ t2 : Bool, (rb = true → impl_ViewOk.f k m0 m1 m2 m3 = some t2) ∧ (if rb = true then (if t2 = true then (m0, m1, m2, m3) else ([], [], 0, 0)) else ([], [], 0, 0)) = (r1, r2, r3, r4) := by
      cases rb with
      | false =>
        rw [if_neg (by simp)] at h
        exact ⟨false, (fun z => (by cases z)), by simpa using h⟩
      | true =>
        rw [if_pos rfl] at h
        obtain ⟨t2, hv2, h⟩ := Option.bind_eq_some_iff.mp h
        refine ⟨t2, fun _ => hv2, ?_⟩
        cases t2 <;> simpa using h
    have HL0 := Aside0.mk hl0
    have HL1 := Aside0.mk hl1
    have HF := Aside0.mk hf
    have HV2 := Aside0.mk hv2
    have HRES := Aside0.mk hres
    clear hl0 hl1 hf hv2 hres h
    have hmf : ∀ (fn : Fn) (first cap : Array Value) (w : World), (Instr.makeFunc fn first cap).run Try.prog w = .ok (.func fn first cap) w := fun _ _ _ _ => rfl
    go_enter Try.func19, Try.ntmps19
    go_wp2_with (first | ((with_reducible refine gate_dst (N := 3) rfl ?_); refine box_event ?hg (N := 3) ?hd (cs := #[.slice A0_0 l0_0.length c0_0, .slice A0_1 l0_1.length c0_1, .int .i64 a0_2, .int .i64 a0_3]) (t := 26) ?hr ?_; (case hd => rfl); (case hg => rfl); (case hr => first | (go_simp; done) | (go_simp; rfl)); intro gv hg_gv w_gv hbox hb; have ng_ := Aside0.mk (by rw [hg_gv]; exact (below_size (by repeat (first | (with_reducible first | exact HB.out | apply below_alloc | apply pw_below_drewN | apply below_drew1) | exact HB.out))) : w.heap.size ≤ gv); have nb_ := Aside0.mk (below_step (by repeat (first | (with_reducible first | exact HB.out | apply below_alloc | apply pw_below_drewN | apply below_drew1) | exact HB.out)) hb); clear HB ; have HB := nb_; clear nb_  hb; have BKv := Aside0.mk hbox; have GBKv := ng_; clear hbox ng_ hg_gv) | ((with_reducible refine gate_dst (N := 4) rfl ?_); refine box_event ?hg (N := 4) ?hd (cs := #[.int .i64 a1]) (t := 3) ?hr ?_; (case hd => rfl); (case hg => rfl); (case hr => first | (go_simp; done) | (go_simp; rfl)); intro gq1 hg_gq1 w_gq1 hbox hb; have ng_ := Aside0.mk (by rw [hg_gq1]; exact (below_size (by repeat (first | (with_reducible first | exact HB.out | apply below_alloc | apply pw_below_drewN | apply below_drew1) | exact HB.out))) : w.heap.size ≤ gq1); have nb_ := Aside0.mk (below_step (by repeat (first | (with_reducible first | exact HB.out | apply below_alloc | apply pw_below_drewN | apply below_drew1) | exact HB.out)) hb); have n0_ := Aside0.mk (blk_below (g := gv) (o := .cells #[.slice A0_0 l0_0.length c0_0, .slice A0_1 l0_1.length c0_1, .int .i64 a0_2, .int .i64 a0_3] 26 (0, 0)) (by (with_reducible repeat (first | refine blk_drewN ?_ _ | refine blk_drew ?_ | refine blk_alloc ?_ _)); exact BKv.out) hb); clear HB BKv; have HB := nb_; have BKv := n0_; clear nb_ n0_ hb; have BKgq1 := Aside0.mk hbox; have GBKgq1 := ng_; clear hbox ng_ hg_gq1) | ((with_reducible refine gate_dst (N := 5) rfl ?_); refine box_event ?hg (N := 5) ?hd (cs := #[.int .i64 a2]) (t := 3) ?hr ?_; (case hd => rfl); (case hg => rfl); (case hr => first | (go_simp; done) | (go_simp; rfl)); intro gq2 hg_gq2 w_gq2 hbox hb; have ng_ := Aside0.mk (by rw [hg_gq2]; exact (below_size (by repeat (first | (with_reducible first | exact HB.out | apply below_alloc | apply pw_below_drewN | apply below_drew1) | exact HB.out))) : w.heap.size ≤ gq2); have nb_ := Aside0.mk (below_step (by repeat (first | (with_reducible first | exact HB.out | apply below_alloc | apply pw_below_drewN | apply below_drew1) | exact HB.out)) hb); have n0_ := Aside0.mk (blk_below (g := gv) (o := .cells #[.slice A0_0 l0_0.length c0_0, .slice A0_1 l0_1.length c0_1, .int .i64 a0_2, .int .i64 a0_3] 26 (0, 0)) (by (with_reducible repeat (first | refine blk_drewN ?_ _ | refine blk_drew ?_ | refine blk_alloc ?_ _)); exact BKv.out) hb); have n1_ := Aside0.mk (blk_below (g := gq1) (o := .cells #[.int .i64 a1] 3 (0, 0)) (by (with_reducible repeat (first | refine blk_drewN ?_ _ | refine blk_drew ?_ | refine blk_alloc ?_ _)); exact BKgq1.out) hb); clear HB BKv BKgq1; have HB := nb_; have BKv := n0_; have BKgq1 := n1_; clear nb_ n0_ n1_ hb; have BKgq2 := Aside0.mk hbox; have GBKgq2 := ng_; clear hbox ng_ hg_gq2) | ((with_reducible refine gate_dst (N := 6) rfl ?_); refine box_event ?hg (N := 6) ?hd (cs := #[.slice none 0 0, .slice none 0 0, .int .i64 0, .int .i64 0]) (t := 26) ?hr ?_; (case hd => rfl); (case hg => rfl); (case hr => first | (go_simp; done) | (go_simp; rfl)); intro gr hg_gr w_gr hbox hb; have ng_ := Aside0.mk (by rw [hg_gr]; exact (below_size (by repeat (first | (with_reducible first | exact HB.out | apply below_alloc | apply pw_below_drewN | apply below_drew1) | exact HB.out))) : w.heap.size ≤ gr); have nb_ := Aside0.mk (below_step (by repeat (first | (with_reducible first | exact HB.out | apply below_alloc | apply pw_below_drewN | apply below_drew1) | exact HB.out)) hb); have n0_ := Aside0.mk (blk_below (g := gv) (o := .cells #[.slice A0_0 l0_0.length c0_0, .slice A0_1 l0_1.length c0_1, .int .i64 a0_2, .int .i64 a0_3] 26 (0, 0)) (by (with_reducible repeat (first | refine blk_drewN ?_ _ | refine blk_drew ?_ | refine blk_alloc ?_ _)); exact BKv.out) hb); have n1_ := Aside0.mk (blk_below (g := gq1) (o := .cells #[.int .i64 a1] 3 (0, 0)) (by (with_reducible repeat (first | refine blk_drewN ?_ _ | refine blk_drew ?_ | refine blk_alloc ?_ _)); exact BKgq1.out) hb); have n2_ := Aside0.mk (blk_below (g := gq2) (o := .cells #[.int .i64 a2] 3 (0, 0)) (by (with_reducible repeat (first | refine blk_drewN ?_ _ | refine blk_drew ?_ | refine blk_alloc ?_ _)); exact BKgq2.out) hb); clear HB BKv BKgq1 BKgq2; have HB := nb_; have BKv := n0_; have BKgq1 := n1_; have BKgq2 := n2_; clear nb_ n0_ n1_ n2_ hb; have BKr := Aside0.mk hbox; have GBKr := ng_; clear hbox ng_ hg_gr; have hcv0 : w_gr.cell? ⟨gv, 0, none⟩ = some (.slice A0_0 l0_0.length c0_0) := (blk_cell BKv.out 0).trans rfl; have hcv1 : w_gr.cell? ⟨gv, 1, none⟩ = some (.slice A0_1 l0_1.length c0_1) := (blk_cell BKv.out 1).trans rfl; have hcv2 : w_gr.cell? ⟨gv, 2, none⟩ = some (.int .i64 a0_2) := (blk_cell BKv.out 2).trans rfl; have hcv3 : w_gr.cell? ⟨gv, 3, none⟩ = some (.int .i64 a0_3) := (blk_cell BKv.out 3).trans rfl) | (go_at_call 39; refine (impl_turn.go k w.heap.size gq1 gq2 _ _ l0_0 _ _ l0_1 a0_2 a0_3 rb t2 m0 m1 m2 m3 r1 r2 r3 r4 _ (below_size HB.out) ?s1 HC0_0.out ?s3 HC0_1.out HV.out HL0.out HL1.out ?sby HV2.out HRES.out).mono ?_; (case s1 => repeat (first | exact (Kd.C_below HR0_0.out HB.out) | (with_reducible refine Kd.C_alloc ?_ _) | (with_reducible refine Kd.C_drewN ?_ _) | (with_reducible refine Kd.C_drew ?_))); (case s3 => repeat (first | exact (Kd.C_below HR0_1.out HB.out) | (with_reducible refine Kd.C_alloc ?_ _) | (with_reducible refine Kd.C_drewN ?_ _) | (with_reducible refine Kd.C_drew ?_))); (case sby => exact (by intro W gw B0 B1 d0 d1 hbW hgw hp h0 h1; exact impl_Diagonal.closure _ W w.heap.size gq1 gq2 a1 a2 gw B0 B1 d0 d1 l0_0 l0_1 a0_2 a0_3 rb m0 m1 m2 m3 (by (with_reducible repeat (first | refine blk_drewN ?_ _ | refine blk_drew ?_ | refine blk_alloc ?_ _)); exact BKgq1.out) (by (with_reducible repeat (first | refine blk_drewN ?_ _ | refine blk_drew ?_ | refine blk_alloc ?_ _)); exact BKgq2.out) (below_size HB.out) _ (Below.refl _ _) hbW hgw hp h0 h1 HF.out)); rintro e w9 ⟨v0, v1, rfl, ho0, ho1, hbb, h26⟩; have BKr9 := Aside0.mk (h26 _ _ (by (with_reducible repeat (first | refine blk_drewN ?_ _ | refine blk_drew ?_ | refine blk_alloc ?_ _)); exact BKr.out)); have HB9 := Aside0.mk (HB.out.trans hbb); have HO0 := Aside0.mk (Kd.R_lower ho0 (below_size HB.out)); have HO1 := Aside0.mk (Kd.R_lower ho1 (below_size HB.out)); obtain ⟨E0, f0, rfl⟩ := Kd.R_slice ho0; obtain ⟨E1, f1, rfl⟩ := Kd.R_slice ho1; clear ho0 ho1 hbb h26 HB BKr; have hcr0 : w9.cell? ⟨gr, 0, none⟩ = some (.slice none 0 0) := (blk_cell BKr9.out 0).trans rfl; have hcr1 : w9.cell? ⟨gr, 1, none⟩ = some (.slice none 0 0) := (blk_cell BKr9.out 1).trans rfl; have hcr2 : w9.cell? ⟨gr, 2, none⟩ = some (.int .i64 0) := (blk_cell BKr9.out 2).trans rfl; have hcr3 : w9.cell? ⟨gr, 3, none⟩ = some (.int .i64 0) := (blk_cell BKr9.out 3).trans rfl; have hcrf0 := blk_frozen BKr9.out 0; have hcrf1 := blk_frozen BKr9.out 1; have hcrf2 := blk_frozen BKr9.out 2; have hcrf3 := blk_frozen BKr9.out 3))
    refine bodyPost_ret (results_cell_row rfl _ _ gr 26 #[.slice E0 r1.length f0, .slice E1 r2.length f1, .int .i64 r3, .int .i64 r4] (0, 0) _ rfl (by (with_reducible repeat (first | refine blk_drewN ?_ _ | refine blk_drew ?_)); refine blk_put (cs := #[.slice E0 r1.length f0, .slice E1 r2.length f1, .int .i64 r3, .int .i64 0]) ?_ 3 _ rfl; (with_reducible repeat (first | refine blk_drewN ?_ _ | refine blk_drew ?_)); refine blk_put (cs := #[.slice E0 r1.length f0, .slice E1 r2.length f1, .int .i64 0, .int .i64 0]) ?_ 2 _ rfl; (with_reducible repeat (first | refine blk_drewN ?_ _ | refine blk_drew ?_)); refine blk_put (cs := #[.slice E0 r1.length f0, .slice none 0 0, .int .i64 0, .int .i64 0]) ?_ 1 _ rfl; (with_reducible repeat (first | refine blk_drewN ?_ _ | refine blk_drew ?_)); refine blk_put (cs := #[.slice none 0 0, .slice none 0 0, .int .i64 0, .int .i64 0]) ?_ 0 _ rfl; (with_reducible repeat (first | refine blk_drewN ?_ _ | refine blk_drew ?_)); exact BKr9.out) Try.underlying26 rfl (by kernel_rfl)) rfl ?_
    exact ⟨_, _, rfl, by (with_reducible repeat (first | apply Kd.R_drewN | apply Kd.R_drew)); exact Kd.R_mono (Kd.R_far (p := ⟨gr, 3, none⟩) (Kd.R_far (p := ⟨gr, 2, none⟩) (Kd.R_far (p := ⟨gr, 1, none⟩) (Kd.R_far (p := ⟨gr, 0, none⟩) (Kd.R_types HO0.out BKr9.out (by decide)) (fun _ hk => hk.2) _) (fun _ hk => hk.2) _) (fun _ hk => hk.2) _) (fun _ hk => hk.2) _) (fun _ hk => hk.1), by (with_reducible repeat (first | apply Kd.R_drewN | apply Kd.R_drew)); exact Kd.R_mono (Kd.R_far (p := ⟨gr, 3, none⟩) (Kd.R_far (p := ⟨gr, 2, none⟩) (Kd.R_far (p := ⟨gr, 1, none⟩) (Kd.R_far (p := ⟨gr, 0, none⟩) (Kd.R_types HO1.out BKr9.out (by decide)) (fun _ hk => hk.2) _) (fun _ hk => hk.2) _) (fun _ hk => hk.2) _) (fun _ hk => hk.2) _) (fun _ hk => hk.1), by repeat (first | (with_reducible first | exact HB9.out | apply pw_below_drewN | apply below_drew1 | refine below_set ?_ GBKr.out) | exact HB9.out)⟩

set_option maxHeartbeats 8000000 in
set_option maxRecDepth 100000 in
theorem impl_Diagonal.calls (k : Nat) (A0_0 : Option Addr) (c0_0 : Nat) (l0_0 : List Int) (A0_1 : Option Addr) (c0_1 : Nat) (l0_1 : List Int) (a0_2 : Int) (a0_3 : Int) (a1 : Int) (a2 : Int) (r1 : List Int) (r2 : List Int) (r3 : Int) (r4 : Int) (w : World) (hr0_0 : Kd.C (Kd.int .i64) w A0_0 l0_0.length l0_0) (hc0_0 : l0_0.length ≤ c0_0) (hr0_1 : Kd.C (Kd.int .i64) w A0_1 l0_1.length l0_1) (hc0_1 : l0_1.length ≤ c0_1) (h : impl_Diagonal.f k l0_0 l0_1 a0_2 a0_3 a1 a2 = some (r1, r2, r3, r4)) :
    Calls Try.prog 19 #[.agg #[.slice A0_0 l0_0.length c0_0, .slice A0_1 l0_1.length c0_1, .int .i64 a0_2, .int .i64 a0_3], .int .i64 a1, .int .i64 a2] w fun e w' => ∃ v0_ v1_ : Value, e = .returned (.agg #[v0_, v1_, .int .i64 r3, .int .i64 r4]) ∧ Kd.R (Kd.int .i64) 3 w' w.heap.size (fun k_ => some k_ ≠ (v1_ : Value).ownBlock) v0_ r1 ∧ Kd.R (Kd.int .i64) 3 w' w.heap.size (fun k_ => some k_ ≠ (v0_ : Value).ownBlock) v1_ r2 ∧ Below w.heap.size w w' := by
  exact impl_Diagonal.own k _ _ l0_0 _ _ l0_1 a0_2 a0_3 a1 a2 r1 r2 r3 r4 w hr0_0 hc0_0 hr0_1 hc0_1 h

end Go.Proofs.Ytcpemdedmepfeaa.PFnExactDiagonal
