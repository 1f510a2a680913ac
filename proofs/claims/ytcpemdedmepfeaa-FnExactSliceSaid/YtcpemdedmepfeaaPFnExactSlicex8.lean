-- Printed out of the translation, hand-written contracts beside it; checked by the kernel alone.
import Derived.Test.YtcpemdedmepfeaaPFnExactSlicex0
import Derived.Test.YtcpemdedmepfeaaPFnExactSlicex7
namespace Go.Proofs.Ytcpemdedmepfeaa.PFnExactSlice
open Go.RowKit Go.Proofs.YtcpemdedmepfeaaW.PrintWords Go.Proofs.YtcpemdedmepfeaaW.PrintLast Go.Proofs.YtcpemdedmepfeaaW.PrintMore
attribute [local go_sem] max2_int min2_int max_two min_two max_three min_three max_four min_four   -- for this text's walks alone
set_option linter.unusedVariables false
set_option linter.unusedSimpArgs false

/-! ### impl_Slice: function 12 -/
theorem setCell_drewN (w : World) (n : Nat) (a : Addr) (v : Value) : (w.drewN n).setCell a v = (w.setCell a v).drewN n := by
  induction n with
  | zero => rfl
  | succ n ih => rw [← World.drew_drewN, World.setCell_drew, ih, World.drew_drewN]
set_option maxHeartbeats 2000000 in
set_option maxRecDepth 100000 in
theorem set_calls (p0 g0 c0 n0 g1 c1 n1 : Nat) (o b axis n s x0 x1 v : Int) (w : World) (hv : v = if n = 1 then 0 else s)
    (hp : w.heap[p0]? = some (.cells #[.slice (some ⟨g0, 0, none⟩) n0 c0, .slice (some ⟨g1, 0, none⟩) n1 c1, .int .i64 o, .int .i64 b] 26 (0, 0)))
    (h0 : w.cell? ⟨g0, axis.toNat, none⟩ = some (.int .i64 x0)) (h1 : w.cell? ⟨g1, axis.toNat, none⟩ = some (.int .i64 x1)) (f0 : w.frozen? ⟨g0, axis.toNat, none⟩ = false) (f1 : w.frozen? ⟨g1, axis.toNat, none⟩ = false) (hne : g0 ≠ g1)
    (ha : 0 ≤ axis) (ha0 : axis < n0) (ha1 : axis < n1) :
    Calls Try.prog 42 #[.pointer (some ⟨p0, 0, none⟩), .int .i64 axis, .int .i64 n, .int .i64 s] w fun e w' => e = .returned (.tuple #[]) ∧ ∃ m, w' = ((w.setCell ⟨g0, axis.toNat, none⟩ (.int .i64 n)).setCell ⟨g1, axis.toNat, none⟩ (.int .i64 v)).drewN m := by
  have hc0 := (blk_cell hp 0).trans (show _ = some (Value.slice (some ⟨g0, 0, none⟩) n0 c0) from rfl)
  have hc1 := (blk_cell hp 1).trans (show _ = some (Value.slice (some ⟨g1, 0, none⟩) n1 c1) from rfl)
  have HP := Aside0.mk hp
  clear hp
  by_cases hn : n = 1
  · subst hn
    rw [if_pos rfl] at hv
    subst hv
    go_enter Try.func42, Try.ntmps42
    go_wp2
    go_region
    all_goals (go_end0; exact ⟨rfl, 1, rfl⟩)
  · rw [if_neg hn] at hv
    subst hv
    have hn1 : (n == 1) = false := beq_eq_false_iff_ne.mpr hn
    clear hn
    go_enter Try.func42, Try.ntmps42
    go_wp2
    go_region
    all_goals (go_end0; exact ⟨rfl, 1, rfl⟩)
theorem isAxis_calls (A : Option Addr) (n c : Nat) (axis : Int) (r : Bool) (w : World) (h : r = decide (0 ≤ axis ∧ axis < (n : Int))) : Calls Try.prog 41 #[.slice A n c, .int .i64 axis] w fun e w' => e = .returned (.bool r) ∧ w = w' := by
  by_cases h0 : 0 ≤ axis
  · have h0b : decide (0 ≤ axis) = true := decide_eq_true h0
    by_cases h1 : axis < (n : Int)
    · have h1b : decide (axis < (n : Int)) = true := decide_eq_true h1
      obtain rfl : r = true := by rw [h]; exact decide_eq_true ⟨h0, h1⟩
      clear h0 h1 h
      go_enter Try.func41, Try.ntmps41
      go_wp2
      go_ret
      exact ⟨rfl, rfl⟩
    · have h1b : decide (axis < (n : Int)) = false := decide_eq_false h1
      obtain rfl : r = false := by rw [h]; exact decide_eq_false (fun z => h1 z.2)
      clear h0 h1 h
      go_enter Try.func41, Try.ntmps41
      go_wp2
      go_ret
      exact ⟨rfl, rfl⟩
  · have h0b : decide (0 ≤ axis) = false := decide_eq_false h0
    obtain rfl : r = false := by rw [h]; exact decide_eq_false (fun z => h0 z.1)
    clear h0 h
    go_enter Try.func41, Try.ntmps41
    go_wp2
    go_ret
    exact ⟨rfl, rfl⟩
/-- What is told of a view in memory, behind a closure over it. -/
def ViewBy (w0 W : World) (base B gw : Nat) (rb : Bool) (m0 m1 : List Int) (m2 m3 : Int) (e : Ending) (W' : World) : Prop :=
  ∃ v0 v1 : Value, e = .returned (.bool rb) ∧ W'.heap[gw]? = some (.cells #[v0, v1, .int .i64 m2, .int .i64 m3] 26 (0, 0)) ∧ Kd.R (Kd.int .i64) 3 W' base (fun k_ => some k_ ≠ (v1 : Value).ownBlock) v0 m0 ∧ Kd.R (Kd.int .i64) 3 W' base (fun k_ => some k_ ≠ (v0 : Value).ownBlock) v1 m1 ∧
    (∀ (g : Nat) (cs : Array Value), g ≠ gw → W.heap[g]? = some (.cells cs 26 (0, 0)) → W'.heap[g]? = some (.cells cs 26 (0, 0))) ∧ W.heap.size ≤ W'.heap.size ∧ Below B w0 W'
/-- The view as it was. -/
theorem ViewBy.same {w0 W : World} {base B gw : Nat} {A0 A1 : Option Addr} {d0 d1 : Nat} {l0 l1 : List Int} {o b : Int} (m : Nat) (r : Bool)
    (hp : W.heap[gw]? = some (.cells #[.slice A0 l0.length d0, .slice A1 l1.length d1, .int .i64 o, .int .i64 b] 26 (0, 0)))
    (h0 : Kd.R (Kd.int .i64) 3 W base (fun k_ => some k_ ≠ (.slice A1 l1.length d1 : Value).ownBlock) (.slice A0 l0.length d0) l0) (h1 : Kd.R (Kd.int .i64) 3 W base (fun k_ => some k_ ≠ (.slice A0 l0.length d0 : Value).ownBlock) (.slice A1 l1.length d1) l1) (hB : Below B w0 W) :
    ViewBy w0 W base B gw r l0 l1 o b (.returned (.bool r)) (W.drewN m) :=
  ⟨_, _, rfl, blk_drewN hp m, Kd.R_drewN h0 m, Kd.R_drewN h1 m, fun g cs _ h => blk_drewN h m, Nat.le_refl _, pw_below_drewN hB m⟩
/-- A number of the view, one of each of its rows written. -/
theorem ViewBy.put {w0 W : World} {base B gw g0 g1 d0 d1 : Nat} {l0 l1 : List Int} {o b : Int} (m : Nat) (i x y z : Int) (h0i : 0 ≤ i)
    (hp : W.heap[gw]? = some (.cells #[.slice (some ⟨g0, 0, none⟩) l0.length d0, .slice (some ⟨g1, 0, none⟩) l1.length d1, .int .i64 o, .int .i64 b] 26 (0, 0)))
    (h0 : Kd.R (Kd.int .i64) 3 W base (fun k_ => some k_ ≠ (.slice (some ⟨g1, 0, none⟩) l1.length d1 : Value).ownBlock) (.slice (some ⟨g0, 0, none⟩) l0.length d0) l0) (h1 : Kd.R (Kd.int .i64) 3 W base (fun k_ => some k_ ≠ (.slice (some ⟨g0, 0, none⟩) l0.length d0 : Value).ownBlock) (.slice (some ⟨g1, 0, none⟩) l1.length d1) l1)
    (hB : Below B w0 W) (hbase : B ≤ base) (hgw : B ≤ gw) :
    ViewBy w0 W base B gw true (l0.set i.toNat x) (l1.set i.toNat y) z b (.returned (.bool true)) ((((W.setCell ⟨gw, 2, none⟩ (.int .i64 z)).setCell ⟨g0, i.toNat, none⟩ (.int .i64 x)).setCell ⟨g1, i.toNat, none⟩ (.int .i64 y)).drewN m) := by
  have e0 : g0 ≠ g1 := by
    have := h0.1 g0 rfl
    intro e
    exact this (by rw [e]; rfl)
  obtain ⟨cs0, hc0⟩ := Kd.R_typed h0 g0 rfl
  obtain ⟨cs1, hc1⟩ := Kd.R_typed h1 g1 rfl
  have n0 : gw ≠ g0 := blk_ne hp hc0 (by decide)
  have n1 : gw ≠ g1 := blk_ne hp hc1 (by decide)
  have b0 := Nat.le_trans hbase (Kd.R_base h0 g0 rfl)
  have b1 := Nat.le_trans hbase (Kd.R_base h1 g1 rfl)
  have s0 := Kd.R_set h0 hp (by decide) 2 (.int .i64 z)
  have s1 := Kd.R_set h1 hp (by decide) 2 (.int .i64 z)
  have p0 := (Kd.R_putg s0 i x).1
  have t1 := Kd.R_far (p := ⟨g0, i.toNat, none⟩) s1 (fun k hk e => hk (by rw [e]; rfl)) (.int .i64 x)
  have t0 := Kd.R_far (p := ⟨g1, i.toNat, none⟩) p0 (fun k hk e => hk (by rw [e]; rfl)) (.int .i64 y)
  have p1 := (Kd.R_putg t1 i y).1
  have e00 : (l0.set i.toNat x).length = l0.length := List.length_set ..
  have e11 : (l1.set i.toNat y).length = l1.length := List.length_set ..
  refine ⟨.slice (some ⟨g0, 0, none⟩) l0.length d0, .slice (some ⟨g1, 0, none⟩) l1.length d1, rfl, blk_drewN (blk_far (blk_far (blk_put hp 2 _ rfl) n0 _) n1 _) m, Kd.R_drewN t0 m, Kd.R_drewN p1 m, ?_, ?_, ?_⟩
  · intro g cs hg h
    have m0 : g ≠ g0 := blk_ne h hc0 (by decide)
    have m1 : g ≠ g1 := blk_ne h hc1 (by decide)
    exact blk_drewN (blk_far (blk_far (blk_far h hg _) m0 _) m1 _) m
  · simp
  · exact pw_below_drewN (((hB.setCell (p := ⟨gw, 2, none⟩) hgw _).setCell (p := ⟨g0, i.toNat, none⟩) b0 _).setCell (p := ⟨g1, i.toNat, none⟩) b1 _) m
set_option maxHeartbeats 2000000 in
set_option maxRecDepth 100000 in
theorem impl_turn.no (k g : Nat) (caps : Array Value) (A0 : Option Addr) (c0 : Nat) (l0 : List Int) (A1 : Option Addr) (c1 : Nat) (l1 : List Int) (o b : Int) (w : World)
    (hr0 : Kd.C (Kd.int .i64) w A0 l0.length l0) (hc0 : l0.length ≤ c0) (hr1 : Kd.C (Kd.int .i64) w A1 l1.length l1) (hc1 : l1.length ≤ c1) (hv : impl_ViewOk.f k l0 l1 o b = some false) :
    Calls Try.prog 39 #[.agg #[.slice A0 l0.length c0, .slice A1 l1.length c1, .int .i64 o, .int .i64 b], .func (.func g) #[] caps] w fun e w' => e = .returned (.agg #[.slice none 0 0, .slice none 0 0, .int .i64 0, .int .i64 0]) ∧ Below w.heap.size w w' := by
  have hu26 := Try.underlying26
  have HR0 := Aside0.mk hr0
  have HC0 := Aside0.mk hc0
  have HR1 := Aside0.mk hr1
  have HC1 := Aside0.mk hc1
  have HV := Aside0.mk hv
  clear hr0 hc0 hr1 hc1 hv
  have HB := Aside0.mk (Below.refl w.heap.size w)
  go_enter Try.func39, Try.ntmps39
  go_wp2_with (first | ((with_reducible refine gate_dst (N := 2) rfl ?_); refine box_event ?hg (N := 2) ?hd (cs := #[.slice A0 l0.length c0, .slice A1 l1.length c1, .int .i64 o, .int .i64 b]) (t := 26) ?hr ?_; (case hd => rfl); (case hg => rfl); (case hr => first | (go_simp; done) | (go_simp; rfl)); intro gv hg_gv w_gv hbox hb; have ng_ := Aside0.mk (by rw [hg_gv]; exact (below_size (by repeat (first | (with_reducible first | exact HB.out | apply below_alloc | apply pw_below_drewN | apply below_drew1) | exact HB.out))) : w.heap.size ≤ gv); have nb_ := Aside0.mk (below_step (by repeat (first | (with_reducible first | exact HB.out | apply below_alloc | apply pw_below_drewN | apply below_drew1) | exact HB.out)) hb); clear HB ; have HB := nb_; clear nb_  hb; have BKv := Aside0.mk hbox; have GBKv := ng_; clear hbox ng_ hg_gv) | ((with_reducible refine gate_dst (N := 4) rfl ?_); refine box_event ?hg (N := 4) ?hd (cs := #[.slice none 0 0, .slice none 0 0, .int .i64 0, .int .i64 0]) (t := 26) ?hr ?_; (case hd => rfl); (case hg => rfl); (case hr => first | (go_simp; done) | (go_simp; rfl)); intro gr hg_gr w_gr hbox hb; have ng_ := Aside0.mk (by rw [hg_gr]; exact (below_size (by repeat (first | (with_reducible first | exact HB.out | apply below_alloc | apply pw_below_drewN | apply below_drew1) | exact HB.out))) : w.heap.size ≤ gr); have nb_ := Aside0.mk (below_step (by repeat (first | (with_reducible first | exact HB.out | apply below_alloc | apply pw_below_drewN | apply below_drew1) | exact HB.out)) hb); have n0_ := Aside0.mk (blk_below (g := gv) (o := .cells #[.slice A0 l0.length c0, .slice A1 l1.length c1, .int .i64 o, .int .i64 b] 26 (0, 0)) (by (with_reducible repeat (first | refine blk_drewN ?_ _ | refine blk_drew ?_ | refine blk_alloc ?_ _)); exact BKv.out) hb); clear HB BKv; have HB := nb_; have BKv := n0_; clear nb_ n0_ hb; have BKr := Aside0.mk hbox; have GBKr := ng_; clear hbox ng_ hg_gr; have hcv0 : w_gr.cell? ⟨gv, 0, none⟩ = some (.slice A0 l0.length c0) := (blk_cell BKv.out 0).trans rfl; have hcv1 : w_gr.cell? ⟨gv, 1, none⟩ = some (.slice A1 l1.length c1) := (blk_cell BKv.out 1).trans rfl; have hcv2 : w_gr.cell? ⟨gv, 2, none⟩ = some (.int .i64 o) := (blk_cell BKv.out 2).trans rfl; have hcv3 : w_gr.cell? ⟨gv, 3, none⟩ = some (.int .i64 b) := (blk_cell BKv.out 3).trans rfl) | (go_at_call 79; refine (impl_ViewOk.calls k _ _ l0 _ _ l1 o b false _ ?s1 ?s2 ?s3 ?s4 HV.out).mono ?_; (case s1 => repeat (first | exact (Kd.C_below HR0.out HB.out) | (with_reducible refine Kd.C_alloc ?_ _) | (with_reducible refine Kd.C_drewN ?_ _) | (with_reducible refine Kd.C_drew ?_))); (case s2 => exact HC0.out); (case s3 => repeat (first | exact (Kd.C_below HR1.out HB.out) | (with_reducible refine Kd.C_alloc ?_ _) | (with_reducible refine Kd.C_drewN ?_ _) | (with_reducible refine Kd.C_drew ?_))); (case s4 => exact HC1.out); rintro e w1 ⟨rfl, hb⟩; have nb_ := Aside0.mk (below_step (by repeat (first | (with_reducible first | exact HB.out | apply below_alloc | apply pw_below_drewN | apply below_drew1) | exact HB.out)) hb); have n0_ := Aside0.mk (blk_below (g := gv) (o := .cells #[.slice A0 l0.length c0, .slice A1 l1.length c1, .int .i64 o, .int .i64 b] 26 (0, 0)) (by (with_reducible repeat (first | refine blk_drewN ?_ _ | refine blk_drew ?_ | refine blk_alloc ?_ _)); exact BKv.out) hb); have n1_ := Aside0.mk (blk_below (g := gr) (o := .cells #[.slice none 0 0, .slice none 0 0, .int .i64 0, .int .i64 0] 26 (0, 0)) (by (with_reducible repeat (first | refine blk_drewN ?_ _ | refine blk_drew ?_ | refine blk_alloc ?_ _)); exact BKr.out) hb); clear HB BKv BKr; have HB := nb_; have BKv := n0_; have BKr := n1_; clear nb_ n0_ n1_ hb; clear hcv0 hcv1 hcv2 hcv3; have hcr0 : w1.cell? ⟨gr, 0, none⟩ = some (.slice none 0 0) := (blk_cell BKr.out 0).trans rfl; have hcr1 : w1.cell? ⟨gr, 1, none⟩ = some (.slice none 0 0) := (blk_cell BKr.out 1).trans rfl; have hcr2 : w1.cell? ⟨gr, 2, none⟩ = some (.int .i64 0) := (blk_cell BKr.out 2).trans rfl; have hcr3 : w1.cell? ⟨gr, 3, none⟩ = some (.int .i64 0) := (blk_cell BKr.out 3).trans rfl; have hcrf0 := blk_frozen BKr.out 0; have hcrf1 := blk_frozen BKr.out 1; have hcrf2 := blk_frozen BKr.out 2; have hcrf3 := blk_frozen BKr.out 3))
  refine bodyPost_ret (results_cell_row rfl _ _ gr 26 #[.slice none 0 0, .slice none 0 0, .int .i64 0, .int .i64 0] (0, 0) _ rfl (by (with_reducible repeat (first | refine blk_drewN ?_ _ | refine blk_drew ?_)); refine blk_put (cs := #[.slice none 0 0, .slice none 0 0, .int .i64 0, .int .i64 0]) ?_ 3 _ rfl; (with_reducible repeat (first | refine blk_drewN ?_ _ | refine blk_drew ?_)); refine blk_put (cs := #[.slice none 0 0, .slice none 0 0, .int .i64 0, .int .i64 0]) ?_ 2 _ rfl; (with_reducible repeat (first | refine blk_drewN ?_ _ | refine blk_drew ?_)); refine blk_put (cs := #[.slice none 0 0, .slice none 0 0, .int .i64 0, .int .i64 0]) ?_ 1 _ rfl; (with_reducible repeat (first | refine blk_drewN ?_ _ | refine blk_drew ?_)); refine blk_put (cs := #[.slice none 0 0, .slice none 0 0, .int .i64 0, .int .i64 0]) ?_ 0 _ rfl; (with_reducible repeat (first | refine blk_drewN ?_ _ | refine blk_drew ?_)); exact BKr.out) Try.underlying26 rfl (by kernel_rfl)) rfl ?_
  exact ⟨rfl, by repeat (first | (with_reducible first | exact HB.out | apply below_alloc | apply pw_below_drewN | apply below_drew1 | refine below_set ?_ GBKr.out) | exact HB.out)⟩
set_option maxHeartbeats 8000000 in
set_option maxRecDepth 100000 in
theorem impl_turn.go (k B : Nat) (q1 q2 q3 q4 : Nat) (A0 : Option Addr) (c0 : Nat) (l0 : List Int) (A1 : Option Addr) (c1 : Nat) (l1 : List Int) (o b : Int) (rb t2 : Bool) (m0 m1 : List Int) (m2 m3 : Int) (r0 r1 : List Int) (r2 r3 : Int) (w : World) (hB : B ≤ w.heap.size)
    (hr0 : Kd.C (Kd.int .i64) w A0 l0.length l0) (hc0 : l0.length ≤ c0) (hr1 : Kd.C (Kd.int .i64) w A1 l1.length l1) (hc1 : l1.length ≤ c1)
    (hv : impl_ViewOk.f k l0 l1 o b = some true) (hl0 : slices_Clone_int_int.f l0 = some l0) (hl1 : slices_Clone_int_int.f l1 = some l1)
    (hby : ∀ (W : World) (gw : Nat) (B0 B1 : Option Addr) (d0 d1 : Nat), Below w.heap.size w W → w.heap.size ≤ gw → W.heap[gw]? = some (.cells #[.slice B0 l0.length d0, .slice B1 l1.length d1, .int .i64 o, .int .i64 b] 26 (0, 0)) →
      Kd.R (Kd.int .i64) 3 W w.heap.size (fun k_ => some k_ ≠ (.slice B1 l1.length d1 : Value).ownBlock) (.slice B0 l0.length d0) l0 → Kd.R (Kd.int .i64) 3 W w.heap.size (fun k_ => some k_ ≠ (.slice B0 l0.length d0 : Value).ownBlock) (.slice B1 l1.length d1) l1 →
      Calls Try.prog 40 #[.pointer (some ⟨gw, 0, none⟩), .pointer (some ⟨q1, 0, none⟩), .pointer (some ⟨q2, 0, none⟩), .pointer (some ⟨q3, 0, none⟩), .pointer (some ⟨q4, 0, none⟩)] W fun e W' => ∃ v0 v1 : Value, e = .returned (.bool rb) ∧ W'.heap[gw]? = some (.cells #[v0, v1, .int .i64 m2, .int .i64 m3] 26 (0, 0)) ∧ Kd.R (Kd.int .i64) 3 W' w.heap.size (fun k_ => some k_ ≠ (v1 : Value).ownBlock) v0 m0 ∧ Kd.R (Kd.int .i64) 3 W' w.heap.size (fun k_ => some k_ ≠ (v0 : Value).ownBlock) v1 m1 ∧
        (∀ (g : Nat) (cs : Array Value), g ≠ gw → W.heap[g]? = some (.cells cs 26 (0, 0)) → W'.heap[g]? = some (.cells cs 26 (0, 0))) ∧ W.heap.size ≤ W'.heap.size ∧ Below B w W')
    (hv2 : rb = true → impl_ViewOk.f k m0 m1 m2 m3 = some t2) (hres : (if rb = true then (if t2 = true then (m0, m1, m2, m3) else ([], [], 0, 0)) else ([], [], 0, 0)) = (r0, r1, r2, r3)) :
    Calls Try.prog 39 #[.agg #[.slice A0 l0.length c0, .slice A1 l1.length c1, .int .i64 o, .int .i64 b], .func (.func 40) #[] #[.pointer (some ⟨q1, 0, none⟩), .pointer (some ⟨q2, 0, none⟩), .pointer (some ⟨q3, 0, none⟩), .pointer (some ⟨q4, 0, none⟩)]] w fun e w' => ∃ v0_ v1_ : Value, e = .returned (.agg #[v0_, v1_, .int .i64 r2, .int .i64 r3]) ∧ Kd.R (Kd.int .i64) 3 w' w.heap.size (fun k_ => some k_ ≠ (v1_ : Value).ownBlock) v0_ r0 ∧ Kd.R (Kd.int .i64) 3 w' w.heap.size (fun k_ => some k_ ≠ (v0_ : Value).ownBlock) v1_ r1 ∧ Below B w w' ∧ (∀ (g : Nat) (cs : Array Value), w.heap[g]? = some (.cells cs 26 (0, 0)) → w'.heap[g]? = some (.cells cs 26 (0, 0))) := by
  have hu26 := Try.underlying26
  have HR0 := Aside0.mk hr0
  have HC0 := Aside0.mk hc0
  have HR1 := Aside0.mk hr1
  have HC1 := Aside0.mk hc1
  have HV := Aside0.mk hv
  have HL0 := Aside0.mk hl0
  have HL1 := Aside0.mk hl1
  have HBY := Aside0.mk hby
  have HBS := Aside0.mk hB
  clear hr0 hc0 hr1 hc1 hv hl0 hl1 hby hB
  have HB := Aside0.mk (Below.refl w.heap.size w)
  go_enter Try.func39, Try.ntmps39
  go_upto_region 3 with (first | ((with_reducible refine gate_dst (N := 2) rfl ?_); refine box_event ?hg (N := 2) ?hd (cs := #[.slice A0 l0.length c0, .slice A1 l1.length c1, .int .i64 o, .int .i64 b]) (t := 26) ?hr ?_; (case hd => rfl); (case hg => rfl); (case hr => first | (go_simp; done) | (go_simp; rfl)); intro gv hg_gv w_gv hbox hb; have ng_ := Aside0.mk (by rw [hg_gv]; exact (below_size (by repeat (first | (with_reducible first | exact HB.out | apply below_alloc | apply pw_below_drewN | apply below_drew1) | exact HB.out))) : w.heap.size ≤ gv); have nb_ := Aside0.mk (below_step (by repeat (first | (with_reducible first | exact HB.out | apply below_alloc | apply pw_below_drewN | apply below_drew1) | exact HB.out)) hb); clear HB ; have HB := nb_; clear nb_  hb; have BKv := Aside0.mk hbox; have GBKv := ng_; clear hbox ng_ hg_gv) | ((with_reducible refine gate_dst (N := 4) rfl ?_); refine box_event ?hg (N := 4) ?hd (cs := #[.slice none 0 0, .slice none 0 0, .int .i64 0, .int .i64 0]) (t := 26) ?hr ?_; (case hd => rfl); (case hg => rfl); (case hr => first | (go_simp; done) | (go_simp; rfl)); intro gr hg_gr w_gr hbox hb; have ng_ := Aside0.mk (by rw [hg_gr]; exact (below_size (by repeat (first | (with_reducible first | exact HB.out | apply below_alloc | apply pw_below_drewN | apply below_drew1) | exact HB.out))) : w.heap.size ≤ gr); have nb_ := Aside0.mk (below_step (by repeat (first | (with_reducible first | exact HB.out | apply below_alloc | apply pw_below_drewN | apply below_drew1) | exact HB.out)) hb); have n0_ := Aside0.mk (blk_below (g := gv) (o := .cells #[.slice A0 l0.length c0, .slice A1 l1.length c1, .int .i64 o, .int .i64 b] 26 (0, 0)) (by (with_reducible repeat (first | refine blk_drewN ?_ _ | refine blk_drew ?_ | refine blk_alloc ?_ _)); exact BKv.out) hb); clear HB BKv; have HB := nb_; have BKv := n0_; clear nb_ n0_ hb; have BKr := Aside0.mk hbox; have GBKr := ng_; clear hbox ng_ hg_gr; have hcv0 : w_gr.cell? ⟨gv, 0, none⟩ = some (.slice A0 l0.length c0) := (blk_cell BKv.out 0).trans rfl; have hcv1 : w_gr.cell? ⟨gv, 1, none⟩ = some (.slice A1 l1.length c1) := (blk_cell BKv.out 1).trans rfl; have hcv2 : w_gr.cell? ⟨gv, 2, none⟩ = some (.int .i64 o) := (blk_cell BKv.out 2).trans rfl; have hcv3 : w_gr.cell? ⟨gv, 3, none⟩ = some (.int .i64 b) := (blk_cell BKv.out 3).trans rfl) | (go_at_call 79; refine (impl_ViewOk.calls k _ _ l0 _ _ l1 o b true _ ?s1 ?s2 ?s3 ?s4 HV.out).mono ?_; (case s1 => repeat (first | exact (Kd.C_below HR0.out HB.out) | (with_reducible refine Kd.C_alloc ?_ _) | (with_reducible refine Kd.C_drewN ?_ _) | (with_reducible refine Kd.C_drew ?_))); (case s2 => exact HC0.out); (case s3 => repeat (first | exact (Kd.C_below HR1.out HB.out) | (with_reducible refine Kd.C_alloc ?_ _) | (with_reducible refine Kd.C_drewN ?_ _) | (with_reducible refine Kd.C_drew ?_))); (case s4 => exact HC1.out); rintro e w1 ⟨rfl, hb⟩; have nb_ := Aside0.mk (below_step (by repeat (first | (with_reducible first | exact HB.out | apply below_alloc | apply pw_below_drewN | apply below_drew1) | exact HB.out)) hb); have n0_ := Aside0.mk (blk_below (g := gv) (o := .cells #[.slice A0 l0.length c0, .slice A1 l1.length c1, .int .i64 o, .int .i64 b] 26 (0, 0)) (by (with_reducible repeat (first | refine blk_drewN ?_ _ | refine blk_drew ?_ | refine blk_alloc ?_ _)); exact BKv.out) hb); have n1_ := Aside0.mk (blk_below (g := gr) (o := .cells #[.slice none 0 0, .slice none 0 0, .int .i64 0, .int .i64 0] 26 (0, 0)) (by (with_reducible repeat (first | refine blk_drewN ?_ _ | refine blk_drew ?_ | refine blk_alloc ?_ _)); exact BKr.out) hb); clear HB BKv BKr; have HB := nb_; have BKv := n0_; have BKr := n1_; clear nb_ n0_ n1_ hb; clear hcv0 hcv1 hcv2 hcv3; have hcv0 : w1.cell? ⟨gv, 0, none⟩ = some (.slice A0 l0.length c0) := (blk_cell BKv.out 0).trans rfl; have hcv1 : w1.cell? ⟨gv, 1, none⟩ = some (.slice A1 l1.length c1) := (blk_cell BKv.out 1).trans rfl; have hcv2 : w1.cell? ⟨gv, 2, none⟩ = some (.int .i64 o) := (blk_cell BKv.out 2).trans rfl; have hcv3 : w1.cell? ⟨gv, 3, none⟩ = some (.int .i64 b) := (blk_cell BKv.out 3).trans rfl))
  (try simp only [Act.put, List.setIfInBounds_toArray, List.set_cons_zero, List.set_cons_succ])
  go_cut [5] (fun v5 wc => ∃ (gw : Nat) (B0 B1 : Option Addr) (d0 d1 : Nat), v5 = .pointer (some ⟨gw, 0, none⟩) ∧ Aside0 (wc.heap[gw]? = some (.cells #[.slice B0 l0.length d0, .slice B1 l1.length d1, .int .i64 o, .int .i64 b] 26 (0, 0))) ∧ Aside0 (Kd.R (Kd.int .i64) 3 wc w.heap.size (fun k_ => some k_ ≠ (.slice B1 l1.length d1 : Value).ownBlock) (.slice B0 l0.length d0) l0) ∧ Aside0 (Kd.R (Kd.int .i64) 3 wc w.heap.size (fun k_ => some k_ ≠ (.slice B0 l0.length d0 : Value).ownBlock) (.slice B1 l1.length d1) l1) ∧ Aside0 (w.heap.size ≤ gw) ∧ Aside0 (gw ≠ gr) ∧ Aside0 (wc.heap[gr]? = some (.cells #[.slice none 0 0, .slice none 0 0, .int .i64 0, .int .i64 0] 26 (0, 0))) ∧ Aside0 (Below w.heap.size w wc))
  case first =>
    go_region_held3 (fun w' => w'.cell? ⟨gv, 0, none⟩ = some (.slice A0 l0.length c0) ∧ w'.cell? ⟨gv, 1, none⟩ = some (.slice A1 l1.length c1) ∧ w'.cell? ⟨gv, 2, none⟩ = some (.int .i64 o) ∧ w'.cell? ⟨gv, 3, none⟩ = some (.int .i64 b)) (first | (exact ⟨(blk_cell (by (with_reducible repeat (first | refine blk_drewN ?_ _ | refine blk_drew ?_ | refine blk_alloc ?_ _)); exact BKv.out) 0).trans rfl, (blk_cell (by (with_reducible repeat (first | refine blk_drewN ?_ _ | refine blk_drew ?_ | refine blk_alloc ?_ _)); exact BKv.out) 1).trans rfl, (blk_cell (by (with_reducible repeat (first | refine blk_drewN ?_ _ | refine blk_drew ?_ | refine blk_alloc ?_ _)); exact BKv.out) 2).trans rfl, (blk_cell (by (with_reducible repeat (first | refine blk_drewN ?_ _ | refine blk_drew ?_ | refine blk_alloc ?_ _)); exact BKv.out) 3).trans rfl⟩) | (exact ⟨(blk_cell (blk_far (p := ⟨_, 3, none⟩) (blk_far (p := ⟨_, 2, none⟩) (blk_far (p := ⟨_, 1, none⟩) (blk_far (p := ⟨_, 0, none⟩) BKv.out HZN.out.1 _) HZN.out.1 _) HZN.out.1 _) HZN.out.1 _) 0).trans rfl, (blk_cell (blk_far (p := ⟨_, 3, none⟩) (blk_far (p := ⟨_, 2, none⟩) (blk_far (p := ⟨_, 1, none⟩) (blk_far (p := ⟨_, 0, none⟩) BKv.out HZN.out.1 _) HZN.out.1 _) HZN.out.1 _) HZN.out.1 _) 1).trans rfl, (blk_cell (blk_far (p := ⟨_, 3, none⟩) (blk_far (p := ⟨_, 2, none⟩) (blk_far (p := ⟨_, 1, none⟩) (blk_far (p := ⟨_, 0, none⟩) BKv.out HZN.out.1 _) HZN.out.1 _) HZN.out.1 _) HZN.out.1 _) 2).trans rfl, (blk_cell (blk_far (p := ⟨_, 3, none⟩) (blk_far (p := ⟨_, 2, none⟩) (blk_far (p := ⟨_, 1, none⟩) (blk_far (p := ⟨_, 0, none⟩) BKv.out HZN.out.1 _) HZN.out.1 _) HZN.out.1 _) HZN.out.1 _) 3).trans rfl⟩) | go_keep) (first | (go_at_call_of 80 (Value.slice A0 l0.length c0); refine (slices_Clone_int_int.calls _ _ l0 l0 _ ?s1 HC0.out HL0.out).mono ?_; (case s1 => repeat (first | exact (Kd.C_below HR0.out HB.out) | (with_reducible refine Kd.C_alloc ?_ _) | (with_reducible refine Kd.C_drewN ?_ _) | (with_reducible refine Kd.C_drew ?_))); rintro e w2 ⟨v0, rfl, ho0, hb⟩; obtain ⟨B0, d0, rfl⟩ := Kd.R_slice ho0; (first | (have hz_ := blk_below (o := .cells #[.slice none 0 0, .slice none 0 0, .int .i64 0, .int .i64 0] 26 (0, 0)) HZ.out hb; clear HZ; have HZ := Aside0.mk hz_; clear hz_) | (have hz_ := blk_below (o := .cells #[.slice none 0 0, .slice none 0 0, .int .i64 0, .int .i64 0] 26 (0, 0)) (by (with_reducible repeat (first | refine blk_drewN ?_ _ | refine blk_drew ?_)); exact heap_alloc_new _ _) hb; have hzn_ := And.intro (Nat.ne_of_lt (blk_lt BKv.out)) (Nat.ne_of_lt (blk_lt BKr.out)); have hzl_ := below_size HB.out; have HZ := Aside0.mk hz_; have HZN := Aside0.mk hzn_; have HZL := Aside0.mk hzl_; clear hz_ hzn_ hzl_) | skip); have nb_ := Aside0.mk (below_step (by repeat (first | (with_reducible first | exact HB.out | apply below_alloc | apply pw_below_drewN | apply below_drew1) | exact HB.out)) hb); have n0_ := Aside0.mk (blk_below (g := gv) (o := .cells #[.slice A0 l0.length c0, .slice A1 l1.length c1, .int .i64 o, .int .i64 b] 26 (0, 0)) (by (with_reducible repeat (first | refine blk_drewN ?_ _ | refine blk_drew ?_ | refine blk_alloc ?_ _)); exact BKv.out) hb); have n1_ := Aside0.mk (blk_below (g := gr) (o := .cells #[.slice none 0 0, .slice none 0 0, .int .i64 0, .int .i64 0] 26 (0, 0)) (by (with_reducible repeat (first | refine blk_drewN ?_ _ | refine blk_drew ?_ | refine blk_alloc ?_ _)); exact BKr.out) hb); have no_ := Aside0.mk (Kd.R_lower ho0 (below_size (by repeat (first | (with_reducible first | exact HB.out | apply below_alloc | apply pw_below_drewN | apply below_drew1) | exact HB.out)))); clear ho0 ; have HO0 := no_; clear HB BKv BKr; have HB := nb_; have BKv := n0_; have BKr := n1_; clear nb_ n0_ n1_ hb) | (go_at_call_of 80 (Value.slice A1 l1.length c1); refine (slices_Clone_int_int.calls _ _ l1 l1 _ ?s1 HC1.out HL1.out).mono ?_; (case s1 => repeat (first | exact (Kd.C_below HR1.out HB.out) | (with_reducible refine Kd.C_alloc ?_ _) | (with_reducible refine Kd.C_drewN ?_ _) | (with_reducible refine Kd.C_drew ?_))); rintro e w3 ⟨v1, rfl, ho1, hb⟩; obtain ⟨B1, d1, rfl⟩ := Kd.R_slice ho1; (first | (have hz_ := blk_below (o := .cells #[.slice none 0 0, .slice none 0 0, .int .i64 0, .int .i64 0] 26 (0, 0)) HZ.out hb; clear HZ; have HZ := Aside0.mk hz_; clear hz_) | (have hz_ := blk_below (o := .cells #[.slice none 0 0, .slice none 0 0, .int .i64 0, .int .i64 0] 26 (0, 0)) (by (with_reducible repeat (first | refine blk_drewN ?_ _ | refine blk_drew ?_)); exact heap_alloc_new _ _) hb; have hzn_ := And.intro (Nat.ne_of_lt (blk_lt BKv.out)) (Nat.ne_of_lt (blk_lt BKr.out)); have hzl_ := below_size HB.out; have HZ := Aside0.mk hz_; have HZN := Aside0.mk hzn_; have HZL := Aside0.mk hzl_; clear hz_ hzn_ hzl_) | skip); have nb_ := Aside0.mk (below_step (by repeat (first | (with_reducible first | exact HB.out | apply below_alloc | apply pw_below_drewN | apply below_drew1) | exact HB.out)) hb); have n0_ := Aside0.mk (blk_below (g := gv) (o := .cells #[.slice A0 l0.length c0, .slice A1 l1.length c1, .int .i64 o, .int .i64 b] 26 (0, 0)) (by (with_reducible repeat (first | refine blk_drewN ?_ _ | refine blk_drew ?_ | refine blk_alloc ?_ _)); exact BKv.out) hb); have n1_ := Aside0.mk (blk_below (g := gr) (o := .cells #[.slice none 0 0, .slice none 0 0, .int .i64 0, .int .i64 0] 26 (0, 0)) (by (with_reducible repeat (first | refine blk_drewN ?_ _ | refine blk_drew ?_ | refine blk_alloc ?_ _)); exact BKr.out) hb); have nr_ := Aside0.mk (Kd.R_elder (by (with_reducible repeat (first | apply Kd.R_alloc | apply Kd.R_drewN | apply Kd.R_drew)); exact HO0.out) ho1 hb); replace ho1 := Kd.R_newR ho1 (by (with_reducible repeat (first | apply Kd.R_alloc | apply Kd.R_drewN | apply Kd.R_drew)); exact HO0.out); clear HO0; have HO0 := nr_; have no_ := Aside0.mk (Kd.R_lower ho1 (below_size (by repeat (first | (with_reducible first | exact HB.out | apply below_alloc | apply pw_below_drewN | apply below_drew1) | exact HB.out)))); clear ho1 ; have HO1 := no_; clear HB BKv BKr; have HB := nb_; have BKv := n0_; have BKr := n1_; clear nb_ n0_ n1_ hb; (try (have hz0 : w3.cell? ⟨_, 0, none⟩ = some (Value.slice none 0 0) := (blk_cell HZ.out 0).trans rfl; have hzf0 := blk_frozen HZ.out 0; have hz1 : w3.cell? ⟨_, 1, none⟩ = some (Value.slice none 0 0) := (blk_cell HZ.out 1).trans rfl; have hzf1 := blk_frozen HZ.out 1; have hz2 : w3.cell? ⟨_, 2, none⟩ = some (Value.int .i64 0) := (blk_cell HZ.out 2).trans rfl; have hzf2 := blk_frozen HZ.out 2; have hz3 : w3.cell? ⟨_, 3, none⟩ = some (Value.int .i64 0) := (blk_cell HZ.out 3).trans rfl; have hzf3 := blk_frozen HZ.out 3))))
    · go_wp2
      go_meet
      case rel => exact ⟨w3.heap.size, B0, B1, d0, d1, rfl, ⟨by (with_reducible repeat (first | refine blk_drewN ?_ _ | refine blk_drew ?_)); exact heap_alloc_new _ _⟩, ⟨by (with_reducible repeat (first | apply Kd.R_alloc | apply Kd.R_drewN | apply Kd.R_drew)); exact Kd.R_mono HO0.out (fun _ hk => hk.2)⟩, ⟨by (with_reducible repeat (first | apply Kd.R_alloc | apply Kd.R_drewN | apply Kd.R_drew)); exact Kd.R_mono HO1.out (fun _ hk => hk.2)⟩, ⟨below_size HB.out⟩, ⟨(Nat.ne_of_lt (blk_lt BKr.out)).symm⟩, ⟨(by (with_reducible repeat (first | refine blk_drewN ?_ _ | refine blk_drew ?_ | refine blk_alloc ?_ _)); exact BKr.out)⟩, ⟨by repeat (first | (with_reducible first | exact HB.out | apply below_alloc | apply pw_below_drewN | apply below_drew1) | exact HB.out)⟩⟩
    all_goals
      go_wp2
      go_meet
      case rel => exact ⟨_, B0, B1, d0, d1, rfl, ⟨by (with_reducible repeat (first | refine blk_drewN ?_ _ | refine blk_drew ?_)); refine blk_put (cs := #[.slice B0 l0.length d0, .slice B1 l1.length d1, .int .i64 o, .int .i64 0]) ?_ 3 _ rfl; refine blk_put (cs := #[.slice B0 l0.length d0, .slice B1 l1.length d1, .int .i64 0, .int .i64 0]) ?_ 2 _ rfl; refine blk_put (cs := #[.slice B0 l0.length d0, .slice none 0 0, .int .i64 0, .int .i64 0]) ?_ 1 _ rfl; refine blk_put (cs := #[.slice none 0 0, .slice none 0 0, .int .i64 0, .int .i64 0]) ?_ 0 _ rfl; exact HZ.out⟩, ⟨by (with_reducible repeat (first | apply Kd.R_alloc | apply Kd.R_drewN | apply Kd.R_drew)); exact Kd.R_mono (Kd.R_far (p := ⟨_, 3, none⟩) (Kd.R_far (p := ⟨_, 2, none⟩) (Kd.R_far (p := ⟨_, 1, none⟩) (Kd.R_far (p := ⟨_, 0, none⟩) (Kd.R_types HO0.out HZ.out (by decide)) (fun _ hk => hk.2) _) (fun _ hk => hk.2) _) (fun _ hk => hk.2) _) (fun _ hk => hk.2) _) (fun _ hk => hk.1.2)⟩, ⟨by (with_reducible repeat (first | apply Kd.R_alloc | apply Kd.R_drewN | apply Kd.R_drew)); exact Kd.R_mono (Kd.R_far (p := ⟨_, 3, none⟩) (Kd.R_far (p := ⟨_, 2, none⟩) (Kd.R_far (p := ⟨_, 1, none⟩) (Kd.R_far (p := ⟨_, 0, none⟩) (Kd.R_types HO1.out HZ.out (by decide)) (fun _ hk => hk.2) _) (fun _ hk => hk.2) _) (fun _ hk => hk.2) _) (fun _ hk => hk.2) _) (fun _ hk => hk.1.2)⟩, ⟨HZL.out⟩, ⟨HZN.out.2.symm⟩, ⟨by (with_reducible repeat (first | refine blk_drewN ?_ _ | refine blk_drew ?_)); exact blk_far (p := ⟨_, 3, none⟩) (blk_far (p := ⟨_, 2, none⟩) (blk_far (p := ⟨_, 1, none⟩) (blk_far (p := ⟨_, 0, none⟩) BKr.out HZN.out.2 _) HZN.out.2 _) HZN.out.2 _) HZN.out.2 _⟩, ⟨by repeat (first | (with_reducible first | exact HB.out | apply below_alloc | apply pw_below_drewN | apply below_drew1 | refine below_set ?_ HZL.out) | exact HB.out)⟩⟩
  case rest =>
    obtain ⟨gw, B0, B1, d0, d1, rfl, BKw, HO0, HO1, GW, GWR, BKr, HB⟩ := hcut
    try clear hcv0 hcv1 hcv2 hcv3
    have GRB := Aside0.mk (Nat.le_trans HBS.out GBKr.out)
    cases rb with
    | false =>
      obtain ⟨rfl, rfl, rfl, rfl⟩ : r0 = [] ∧ r1 = [] ∧ r2 = 0 ∧ r3 = 0 := by simpa using hres.symm
      go_wp2_with (first | (go_at_call 40; refine (HBY.out _ gw B0 B1 d0 d1 HB.out GW.out BKw.out HO0.out HO1.out).mono ?_; rintro e w4 ⟨v0, v1, rfl, hw, ho0, ho1, hk, hsz, hbb⟩; obtain ⟨E0, f0, rfl⟩ := Kd.R_slice ho0; obtain ⟨E1, f1, rfl⟩ := Kd.R_slice ho1; have n0_ := Aside0.mk (hk gr _ GWR.out.symm BKr.out); have h26_ : ∀ (g : Nat) (cs : Array Value), w.heap[g]? = some (.cells cs 26 (0, 0)) → w4.heap[g]? = some (.cells cs 26 (0, 0)) := fun g cs h_ => hk g cs (by have := blk_lt h_; have := GW.out; omega) (blk_below h_ HB.out); have H26 := Aside0.mk h26_; clear h26_; have HSZ := Aside0.mk (Nat.le_trans (Nat.le_trans HBS.out (below_size HB.out)) hsz); clear HB BKw HO0 HO1 BKr hk hsz; have HBB := Aside0.mk hbb; have BKw := Aside0.mk hw; have HO0 := Aside0.mk ho0; have HO1 := Aside0.mk ho1; have BKr := n0_; clear n0_ hbb hw ho0 ho1; have hcw0 : w4.cell? ⟨gw, 0, none⟩ = some (.slice E0 m0.length f0) := (blk_cell BKw.out 0).trans rfl; have hcw1 : w4.cell? ⟨gw, 1, none⟩ = some (.slice E1 m1.length f1) := (blk_cell BKw.out 1).trans rfl; have hcw2 : w4.cell? ⟨gw, 2, none⟩ = some (.int .i64 m2) := (blk_cell BKw.out 2).trans rfl; have hcw3 : w4.cell? ⟨gw, 3, none⟩ = some (.int .i64 m3) := (blk_cell BKw.out 3).trans rfl; have hcr0 : w4.cell? ⟨gr, 0, none⟩ = some (.slice none 0 0) := (blk_cell BKr.out 0).trans rfl; have hcr1 : w4.cell? ⟨gr, 1, none⟩ = some (.slice none 0 0) := (blk_cell BKr.out 1).trans rfl; have hcr2 : w4.cell? ⟨gr, 2, none⟩ = some (.int .i64 0) := (blk_cell BKr.out 2).trans rfl; have hcr3 : w4.cell? ⟨gr, 3, none⟩ = some (.int .i64 0) := (blk_cell BKr.out 3).trans rfl; have hcrf0 := blk_frozen BKr.out 0; have hcrf1 := blk_frozen BKr.out 1; have hcrf2 := blk_frozen BKr.out 2; have hcrf3 := blk_frozen BKr.out 3))
      refine bodyPost_ret (results_cell_row rfl _ _ gr 26 #[.slice none 0 0, .slice none 0 0, .int .i64 0, .int .i64 0] (0, 0) _ rfl (by (with_reducible repeat (first | refine blk_drewN ?_ _ | refine blk_drew ?_)); refine blk_put (cs := #[.slice none 0 0, .slice none 0 0, .int .i64 0, .int .i64 0]) ?_ 3 _ rfl; (with_reducible repeat (first | refine blk_drewN ?_ _ | refine blk_drew ?_)); refine blk_put (cs := #[.slice none 0 0, .slice none 0 0, .int .i64 0, .int .i64 0]) ?_ 2 _ rfl; (with_reducible repeat (first | refine blk_drewN ?_ _ | refine blk_drew ?_)); refine blk_put (cs := #[.slice none 0 0, .slice none 0 0, .int .i64 0, .int .i64 0]) ?_ 1 _ rfl; (with_reducible repeat (first | refine blk_drewN ?_ _ | refine blk_drew ?_)); refine blk_put (cs := #[.slice none 0 0, .slice none 0 0, .int .i64 0, .int .i64 0]) ?_ 0 _ rfl; (with_reducible repeat (first | refine blk_drewN ?_ _ | refine blk_drew ?_)); exact BKr.out) Try.underlying26 rfl (by kernel_rfl)) rfl ?_
      exact ⟨_, _, rfl, Kd.R_nil _ _ _ _ _, Kd.R_nil _ _ _ _ _, by (with_reducible repeat (first | exact HBB.out | apply pw_below_drewN | apply below_drew | (refine Below.setCell ?_ GRB.out _))), fun g cs h_ => by have hne_ : g ≠ gr := (by have := blk_lt h_; have := GBKr.out; omega); (with_reducible repeat (first | refine blk_drewN ?_ _ | refine blk_drew ?_ | refine blk_far ?_ hne_ _)); exact H26.out g cs h_⟩
    | true =>
      have HV2 := Aside0.mk (hv2 rfl)
      clear hv2
      cases t2 with
      | false =>
      obtain ⟨rfl, rfl, rfl, rfl⟩ : r0 = [] ∧ r1 = [] ∧ r2 = 0 ∧ r3 = 0 := by simpa using hres.symm
      go_wp2_with (first | (go_at_call 40; refine (HBY.out _ gw B0 B1 d0 d1 HB.out GW.out BKw.out HO0.out HO1.out).mono ?_; rintro e w4 ⟨v0, v1, rfl, hw, ho0, ho1, hk, hsz, hbb⟩; obtain ⟨E0, f0, rfl⟩ := Kd.R_slice ho0; obtain ⟨E1, f1, rfl⟩ := Kd.R_slice ho1; have n0_ := Aside0.mk (hk gr _ GWR.out.symm BKr.out); have h26_ : ∀ (g : Nat) (cs : Array Value), w.heap[g]? = some (.cells cs 26 (0, 0)) → w4.heap[g]? = some (.cells cs 26 (0, 0)) := fun g cs h_ => hk g cs (by have := blk_lt h_; have := GW.out; omega) (blk_below h_ HB.out); have H26 := Aside0.mk h26_; clear h26_; have HSZ := Aside0.mk (Nat.le_trans (Nat.le_trans HBS.out (below_size HB.out)) hsz); clear HB BKw HO0 HO1 BKr hk hsz; have HBB := Aside0.mk hbb; have BKw := Aside0.mk hw; have HO0 := Aside0.mk ho0; have HO1 := Aside0.mk ho1; have BKr := n0_; clear n0_ hbb hw ho0 ho1; have hcw0 : w4.cell? ⟨gw, 0, none⟩ = some (.slice E0 m0.length f0) := (blk_cell BKw.out 0).trans rfl; have hcw1 : w4.cell? ⟨gw, 1, none⟩ = some (.slice E1 m1.length f1) := (blk_cell BKw.out 1).trans rfl; have hcw2 : w4.cell? ⟨gw, 2, none⟩ = some (.int .i64 m2) := (blk_cell BKw.out 2).trans rfl; have hcw3 : w4.cell? ⟨gw, 3, none⟩ = some (.int .i64 m3) := (blk_cell BKw.out 3).trans rfl; have hcr0 : w4.cell? ⟨gr, 0, none⟩ = some (.slice none 0 0) := (blk_cell BKr.out 0).trans rfl; have hcr1 : w4.cell? ⟨gr, 1, none⟩ = some (.slice none 0 0) := (blk_cell BKr.out 1).trans rfl; have hcr2 : w4.cell? ⟨gr, 2, none⟩ = some (.int .i64 0) := (blk_cell BKr.out 2).trans rfl; have hcr3 : w4.cell? ⟨gr, 3, none⟩ = some (.int .i64 0) := (blk_cell BKr.out 3).trans rfl; have hcrf0 := blk_frozen BKr.out 0; have hcrf1 := blk_frozen BKr.out 1; have hcrf2 := blk_frozen BKr.out 2; have hcrf3 := blk_frozen BKr.out 3) | (go_at_call 79; refine (impl_ViewOk.calls k _ _ m0 _ _ m1 m2 m3 _ _ ?s1 ?s2 ?s3 ?s4 HV2.out).mono ?_; (case s1 => exact (Kd.R_reads' HO0.out).2.2); (case s2 => exact (Kd.R_reads' HO0.out).2.1); (case s3 => exact (Kd.R_reads' HO1.out).2.2); (case s4 => exact (Kd.R_reads' HO1.out).2.1); rintro e w5 ⟨rfl, hb⟩; have n0_ := Aside0.mk (Kd.R_below HO0.out hb); have n1_ := Aside0.mk (Kd.R_below HO1.out hb); have n2_ := Aside0.mk (blk_below BKw.out hb); have n3_ := Aside0.mk (blk_below BKr.out hb); have n4_ := Aside0.mk (below_then HBB.out HSZ.out hb); have n5_ : Aside0 (∀ (g : Nat) (cs : Array Value), w.heap[g]? = some (.cells cs 26 (0, 0)) → w5.heap[g]? = some (.cells cs 26 (0, 0))) := ⟨fun g cs h_ => blk_below (H26.out g cs h_) hb⟩; clear H26; have H26 := n5_; clear n5_; clear HO0 HO1 BKw BKr HBB hb hcw0 hcw1 hcw2 hcw3 hcr0 hcr1 hcr2 hcr3 hcrf0 hcrf1 hcrf2 hcrf3; have HO0 := n0_; have HO1 := n1_; have BKw := n2_; have BKr := n3_; have HBB := n4_; clear n0_ n1_ n2_ n3_ n4_; have hcw0 : w5.cell? ⟨gw, 0, none⟩ = some (.slice E0 m0.length f0) := (blk_cell BKw.out 0).trans rfl; have hcw1 : w5.cell? ⟨gw, 1, none⟩ = some (.slice E1 m1.length f1) := (blk_cell BKw.out 1).trans rfl; have hcw2 : w5.cell? ⟨gw, 2, none⟩ = some (.int .i64 m2) := (blk_cell BKw.out 2).trans rfl; have hcw3 : w5.cell? ⟨gw, 3, none⟩ = some (.int .i64 m3) := (blk_cell BKw.out 3).trans rfl; have hcr0 : w5.cell? ⟨gr, 0, none⟩ = some (.slice none 0 0) := (blk_cell BKr.out 0).trans rfl; have hcr1 : w5.cell? ⟨gr, 1, none⟩ = some (.slice none 0 0) := (blk_cell BKr.out 1).trans rfl; have hcr2 : w5.cell? ⟨gr, 2, none⟩ = some (.int .i64 0) := (blk_cell BKr.out 2).trans rfl; have hcr3 : w5.cell? ⟨gr, 3, none⟩ = some (.int .i64 0) := (blk_cell BKr.out 3).trans rfl; have hcrf0 := blk_frozen BKr.out 0; have hcrf1 := blk_frozen BKr.out 1; have hcrf2 := blk_frozen BKr.out 2; have hcrf3 := blk_frozen BKr.out 3))
      refine bodyPost_ret (results_cell_row rfl _ _ gr 26 #[.slice none 0 0, .slice none 0 0, .int .i64 0, .int .i64 0] (0, 0) _ rfl (by (with_reducible repeat (first | refine blk_drewN ?_ _ | refine blk_drew ?_)); refine blk_put (cs := #[.slice none 0 0, .slice none 0 0, .int .i64 0, .int .i64 0]) ?_ 3 _ rfl; (with_reducible repeat (first | refine blk_drewN ?_ _ | refine blk_drew ?_)); refine blk_put (cs := #[.slice none 0 0, .slice none 0 0, .int .i64 0, .int .i64 0]) ?_ 2 _ rfl; (with_reducible repeat (first | refine blk_drewN ?_ _ | refine blk_drew ?_)); refine blk_put (cs := #[.slice none 0 0, .slice none 0 0, .int .i64 0, .int .i64 0]) ?_ 1 _ rfl; (with_reducible repeat (first | refine blk_drewN ?_ _ | refine blk_drew ?_)); refine blk_put (cs := #[.slice none 0 0, .slice none 0 0, .int .i64 0, .int .i64 0]) ?_ 0 _ rfl; (with_reducible repeat (first | refine blk_drewN ?_ _ | refine blk_drew ?_)); exact BKr.out) Try.underlying26 rfl (by kernel_rfl)) rfl ?_
      exact ⟨_, _, rfl, Kd.R_nil _ _ _ _ _, Kd.R_nil _ _ _ _ _, by (with_reducible repeat (first | exact HBB.out | apply pw_below_drewN | apply below_drew | (refine Below.setCell ?_ GRB.out _))), fun g cs h_ => by have hne_ : g ≠ gr := (by have := blk_lt h_; have := GBKr.out; omega); (with_reducible repeat (first | refine blk_drewN ?_ _ | refine blk_drew ?_ | refine blk_far ?_ hne_ _)); exact H26.out g cs h_⟩
      | true =>
      obtain ⟨rfl, rfl, rfl, rfl⟩ : m0 = r0 ∧ m1 = r1 ∧ m2 = r2 ∧ m3 = r3 := by simpa using hres
      go_wp2_with (first | (go_at_call 40; refine (HBY.out _ gw B0 B1 d0 d1 HB.out GW.out BKw.out HO0.out HO1.out).mono ?_; rintro e w4 ⟨v0, v1, rfl, hw, ho0, ho1, hk, hsz, hbb⟩; obtain ⟨E0, f0, rfl⟩ := Kd.R_slice ho0; obtain ⟨E1, f1, rfl⟩ := Kd.R_slice ho1; have n0_ := Aside0.mk (hk gr _ GWR.out.symm BKr.out); have h26_ : ∀ (g : Nat) (cs : Array Value), w.heap[g]? = some (.cells cs 26 (0, 0)) → w4.heap[g]? = some (.cells cs 26 (0, 0)) := fun g cs h_ => hk g cs (by have := blk_lt h_; have := GW.out; omega) (blk_below h_ HB.out); have H26 := Aside0.mk h26_; clear h26_; have HSZ := Aside0.mk (Nat.le_trans (Nat.le_trans HBS.out (below_size HB.out)) hsz); clear HB BKw HO0 HO1 BKr hk hsz; have HBB := Aside0.mk hbb; have BKw := Aside0.mk hw; have HO0 := Aside0.mk ho0; have HO1 := Aside0.mk ho1; have BKr := n0_; clear n0_ hbb hw ho0 ho1; have hcw0 : w4.cell? ⟨gw, 0, none⟩ = some (.slice E0 m0.length f0) := (blk_cell BKw.out 0).trans rfl; have hcw1 : w4.cell? ⟨gw, 1, none⟩ = some (.slice E1 m1.length f1) := (blk_cell BKw.out 1).trans rfl; have hcw2 : w4.cell? ⟨gw, 2, none⟩ = some (.int .i64 m2) := (blk_cell BKw.out 2).trans rfl; have hcw3 : w4.cell? ⟨gw, 3, none⟩ = some (.int .i64 m3) := (blk_cell BKw.out 3).trans rfl; have hcr0 : w4.cell? ⟨gr, 0, none⟩ = some (.slice none 0 0) := (blk_cell BKr.out 0).trans rfl; have hcr1 : w4.cell? ⟨gr, 1, none⟩ = some (.slice none 0 0) := (blk_cell BKr.out 1).trans rfl; have hcr2 : w4.cell? ⟨gr, 2, none⟩ = some (.int .i64 0) := (blk_cell BKr.out 2).trans rfl; have hcr3 : w4.cell? ⟨gr, 3, none⟩ = some (.int .i64 0) := (blk_cell BKr.out 3).trans rfl; have hcrf0 := blk_frozen BKr.out 0; have hcrf1 := blk_frozen BKr.out 1; have hcrf2 := blk_frozen BKr.out 2; have hcrf3 := blk_frozen BKr.out 3) | (go_at_call 79; refine (impl_ViewOk.calls k _ _ m0 _ _ m1 m2 m3 _ _ ?s1 ?s2 ?s3 ?s4 HV2.out).mono ?_; (case s1 => exact (Kd.R_reads' HO0.out).2.2); (case s2 => exact (Kd.R_reads' HO0.out).2.1); (case s3 => exact (Kd.R_reads' HO1.out).2.2); (case s4 => exact (Kd.R_reads' HO1.out).2.1); rintro e w5 ⟨rfl, hb⟩; have n0_ := Aside0.mk (Kd.R_below HO0.out hb); have n1_ := Aside0.mk (Kd.R_below HO1.out hb); have n2_ := Aside0.mk (blk_below BKw.out hb); have n3_ := Aside0.mk (blk_below BKr.out hb); have n4_ := Aside0.mk (below_then HBB.out HSZ.out hb); have n5_ : Aside0 (∀ (g : Nat) (cs : Array Value), w.heap[g]? = some (.cells cs 26 (0, 0)) → w5.heap[g]? = some (.cells cs 26 (0, 0))) := ⟨fun g cs h_ => blk_below (H26.out g cs h_) hb⟩; clear H26; have H26 := n5_; clear n5_; clear HO0 HO1 BKw BKr HBB hb hcw0 hcw1 hcw2 hcw3 hcr0 hcr1 hcr2 hcr3 hcrf0 hcrf1 hcrf2 hcrf3; have HO0 := n0_; have HO1 := n1_; have BKw := n2_; have BKr := n3_; have HBB := n4_; clear n0_ n1_ n2_ n3_ n4_; have hcw0 : w5.cell? ⟨gw, 0, none⟩ = some (.slice E0 m0.length f0) := (blk_cell BKw.out 0).trans rfl; have hcw1 : w5.cell? ⟨gw, 1, none⟩ = some (.slice E1 m1.length f1) := (blk_cell BKw.out 1).trans rfl; have hcw2 : w5.cell? ⟨gw, 2, none⟩ = some (.int .i64 m2) := (blk_cell BKw.out 2).trans rfl; have hcw3 : w5.cell? ⟨gw, 3, none⟩ = some (.int .i64 m3) := (blk_cell BKw.out 3).trans rfl; have hcr0 : w5.cell? ⟨gr, 0, none⟩ = some (.slice none 0 0) := (blk_cell BKr.out 0).trans rfl; have hcr1 : w5.cell? ⟨gr, 1, none⟩ = some (.slice none 0 0) := (blk_cell BKr.out 1).trans rfl; have hcr2 : w5.cell? ⟨gr, 2, none⟩ = some (.int .i64 0) := (blk_cell BKr.out 2).trans rfl; have hcr3 : w5.cell? ⟨gr, 3, none⟩ = some (.int .i64 0) := (blk_cell BKr.out 3).trans rfl; have hcrf0 := blk_frozen BKr.out 0; have hcrf1 := blk_frozen BKr.out 1; have hcrf2 := blk_frozen BKr.out 2; have hcrf3 := blk_frozen BKr.out 3))
      refine bodyPost_ret (results_cell_row rfl _ _ gr 26 #[.slice E0 m0.length f0, .slice E1 m1.length f1, .int .i64 m2, .int .i64 m3] (0, 0) _ rfl (by (with_reducible repeat (first | refine blk_drewN ?_ _ | refine blk_drew ?_)); refine blk_put (cs := #[.slice E0 m0.length f0, .slice E1 m1.length f1, .int .i64 m2, .int .i64 0]) ?_ 3 _ rfl; (with_reducible repeat (first | refine blk_drewN ?_ _ | refine blk_drew ?_)); refine blk_put (cs := #[.slice E0 m0.length f0, .slice E1 m1.length f1, .int .i64 0, .int .i64 0]) ?_ 2 _ rfl; (with_reducible repeat (first | refine blk_drewN ?_ _ | refine blk_drew ?_)); refine blk_put (cs := #[.slice E0 m0.length f0, .slice none 0 0, .int .i64 0, .int .i64 0]) ?_ 1 _ rfl; (with_reducible repeat (first | refine blk_drewN ?_ _ | refine blk_drew ?_)); refine blk_put (cs := #[.slice none 0 0, .slice none 0 0, .int .i64 0, .int .i64 0]) ?_ 0 _ rfl; (with_reducible repeat (first | refine blk_drewN ?_ _ | refine blk_drew ?_)); exact BKr.out) Try.underlying26 rfl (by kernel_rfl)) rfl ?_
      exact ⟨_, _, rfl, by (with_reducible repeat (first | apply Kd.R_drewN | apply Kd.R_drew)); exact Kd.R_mono (Kd.R_far (p := ⟨gr, 3, none⟩) (Kd.R_far (p := ⟨gr, 2, none⟩) (Kd.R_far (p := ⟨gr, 1, none⟩) (Kd.R_far (p := ⟨gr, 0, none⟩) (Kd.R_types HO0.out BKr.out (by decide)) (fun _ hk => hk.2) _) (fun _ hk => hk.2) _) (fun _ hk => hk.2) _) (fun _ hk => hk.2) _) (fun _ hk => hk.1), by (with_reducible repeat (first | apply Kd.R_drewN | apply Kd.R_drew)); exact Kd.R_mono (Kd.R_far (p := ⟨gr, 3, none⟩) (Kd.R_far (p := ⟨gr, 2, none⟩) (Kd.R_far (p := ⟨gr, 1, none⟩) (Kd.R_far (p := ⟨gr, 0, none⟩) (Kd.R_types HO1.out BKr.out (by decide)) (fun _ hk => hk.2) _) (fun _ hk => hk.2) _) (fun _ hk => hk.2) _) (fun _ hk => hk.2) _) (fun _ hk => hk.1), by (with_reducible repeat (first | exact HBB.out | apply pw_below_drewN | apply below_drew | (refine Below.setCell ?_ GRB.out _))), fun g cs h_ => by have hne_ : g ≠ gr := (by have := blk_lt h_; have := GBKr.out; omega); (with_reducible repeat (first | refine blk_drewN ?_ _ | refine blk_drew ?_ | refine blk_far ?_ hne_ _)); exact H26.out g cs h_⟩
set_option maxHeartbeats 2000000 in
set_option maxRecDepth 100000 in
theorem slice_yes (p0 q1 q2 q3 q4 g0 g1 c0 n0 c1 n1 : Nat) (o b axis count frm step x0 x1 : Int) (cs0 cs1 : Array Value) (w : World)
    (hp : w.heap[p0]? = some (.cells #[.slice (some ⟨g0, 0, none⟩) n0 c0, .slice (some ⟨g1, 0, none⟩) n1 c1, .int .i64 o, .int .i64 b] 26 (0, 0)))
    (k1 : w.cell? ⟨q1, 0, none⟩ = some (.int .i64 axis)) (k2 : w.cell? ⟨q2, 0, none⟩ = some (.int .i64 count)) (k3 : w.cell? ⟨q3, 0, none⟩ = some (.int .i64 frm)) (k4 : w.cell? ⟨q4, 0, none⟩ = some (.int .i64 step))
    (hg0 : w.heap[g0]? = some (.cells cs0 3 (0, 0))) (hg1 : w.heap[g1]? = some (.cells cs1 3 (0, 0))) (e0 : cs0[axis.toNat]? = some (.int .i64 x0)) (e1 : cs1[axis.toNat]? = some (.int .i64 x1)) (hne : g0 ≠ g1) (hpg0 : g0 ≠ p0) (hpg1 : g1 ≠ p0)
    (hq1 : q1 ≠ p0) (hq2 : q2 ≠ p0) (hq3 : q3 ≠ p0) (hq4 : q4 ≠ p0)
    (ha : 0 ≤ axis) (ha0 : axis < n0) (ha1 : axis < n1) (h1 : 1 < count) (h2 : count ≤ 4096) (h3 : 0 ≤ frm) (h4 : frm < x0) (h5 : -4096 ≤ step) (h6 : step ≤ 4096) (h7 : 0 ≤ frm + step * (count - 1)) (h8 : frm + step * (count - 1) < x0) (h9 : x0 ≤ 4096) :
    Calls Try.prog 40 #[.pointer (some ⟨p0, 0, none⟩), .pointer (some ⟨q1, 0, none⟩), .pointer (some ⟨q2, 0, none⟩), .pointer (some ⟨q3, 0, none⟩), .pointer (some ⟨q4, 0, none⟩)] w fun e w' => e = .returned (.bool true) ∧
      ∃ m, w' = (((w.setCell ⟨p0, 2, none⟩ (.int .i64 (wrap64 (o + wrap64 (frm * x1))))).setCell ⟨g0, axis.toNat, none⟩ (.int .i64 count)).setCell ⟨g1, axis.toNat, none⟩ (.int .i64 (wrap64 (x1 * step)))).drewN m := by
  have hc0 := (blk_cell hp 0).trans (show _ = some (Value.slice (some ⟨g0, 0, none⟩) n0 c0) from rfl)
  have hc1 := (blk_cell hp 1).trans (show _ = some (Value.slice (some ⟨g1, 0, none⟩) n1 c1) from rfl)
  have hc2 := (blk_cell hp 2).trans (show _ = some (Value.int .i64 o) from rfl)
  have hf2 := blk_frozen hp 2
  have hx0 := (blk_cell hg0 axis.toNat).trans e0
  have hx1 := (blk_cell hg1 axis.toNat).trans e1
  have HP := Aside0.mk hp
  have HG0 := Aside0.mk hg0
  have HG1 := Aside0.mk hg1
  have HE0 := Aside0.mk e0
  have HE1 := Aside0.mk e1
  have HN := Aside0.mk (show (g0 ≠ g1) ∧ (g0 ≠ p0) ∧ (g1 ≠ p0) ∧ 0 ≤ axis ∧ axis < (n0 : Int) ∧ axis < (n1 : Int) ∧ count ≠ 1 from ⟨hne, hpg0, hpg1, ha, ha0, ha1, by omega⟩)
  have HA := Aside0.mk (decide_eq_true (show 0 ≤ axis ∧ axis < (n0 : Int) from ⟨ha, ha0⟩)).symm
  have hw1 : wrap64 (count - 1) = count - 1 := by unfold wrap64; omega
  have hm0 : -4096 * 4096 ≤ step * (count - 1) := by
    have := Int.mul_le_mul_of_nonneg_right h5 (show 0 ≤ count - 1 by omega)
    omega
  have hm1 : step * (count - 1) ≤ 4096 * 4096 := by
    have := Int.mul_le_mul_of_nonneg_right h6 (show 0 ≤ count - 1 by omega)
    omega
  have b1 : decide (count < 1) = false := decide_eq_false (by omega)
  have b2 : decide (4096 < count) = false := decide_eq_false (by omega)
  have b3 : decide (frm < 0) = false := decide_eq_false (by omega)
  have b4 : decide (x0 ≤ frm) = false := decide_eq_false (by omega)
  have b5 : decide (step < -4096) = false := decide_eq_false (by omega)
  have b6 : decide (4096 < step) = false := decide_eq_false (by omega)
  have b7 : decide (1 < count) = true := decide_eq_true h1
  have hl : wrap64 (frm + wrap64 (step * (count - 1))) = frm + step * (count - 1) := by unfold wrap64; omega
  have b8 : decide (frm + step * (count - 1) < 0) = false := decide_eq_false (by omega)
  have b9 : decide (x0 ≤ frm + step * (count - 1)) = false := decide_eq_false (by omega)
  clear hp hg0 hg1 e0 e1 hm0 hm1 h1 h2 h3 h4 h5 h6 h7 h8 h9
  go_enter Try.func40, Try.ntmps40
  go_wp2
  go_quiet ((go_at_call 41; exact Calls.quiet_of_same ((isAxis_calls _ _ _ _ _ _ HA.out).mono (fun e w' h => ⟨h.1, h.2.symm⟩))))
  go_wp2
  go_quiet (fail)
  go_wp2
  go_quiet (fail)
  go_wp2
  go_region
  go_wp2_with (go_at_call 42; go_loud (refine (set_calls p0 g0 c0 n0 g1 c1 n1 (wrap64 (o + wrap64 (frm * x1))) b axis count (wrap64 (x1 * step)) x0 x1 (wrap64 (x1 * step)) _ (if_neg HN.out.2.2.2.2.2.2).symm ?hp ?h0 ?h1 ?f0 ?f1 HN.out.1 HN.out.2.2.2.1 HN.out.2.2.2.2.1 HN.out.2.2.2.2.2.1).mono ?_; (case hp => exact blk_put (blk_drewN HP.out _) 2 _ rfl); (case h0 => exact (blk_cell (blk_far (blk_drewN HG0.out _) HN.out.2.1 _) _).trans HE0.out); (case h1 => exact (blk_cell (blk_far (blk_drewN HG1.out _) HN.out.2.2.1 _) _).trans HE1.out); (case f0 => exact blk_frozen (blk_far (blk_drewN HG0.out _) HN.out.2.1 _) _); (case f1 => exact blk_frozen (blk_far (blk_drewN HG1.out _) HN.out.2.2.1 _) _); rintro e w' ⟨rfl, m, rfl⟩))
  go_ret
  refine ⟨rfl, ?_⟩
  rw [setCell_drewN, setCell_drewN, setCell_drewN, World.drewN_drewN]
  exact ⟨_, rfl⟩
set_option maxHeartbeats 2000000 in
set_option maxRecDepth 100000 in
theorem slice_one (p0 q1 q2 q3 q4 g0 g1 c0 n0 c1 n1 : Nat) (o b axis count frm step x0 x1 : Int) (cs0 cs1 : Array Value) (w : World)
    (hp : w.heap[p0]? = some (.cells #[.slice (some ⟨g0, 0, none⟩) n0 c0, .slice (some ⟨g1, 0, none⟩) n1 c1, .int .i64 o, .int .i64 b] 26 (0, 0)))
    (k1 : w.cell? ⟨q1, 0, none⟩ = some (.int .i64 axis)) (k2 : w.cell? ⟨q2, 0, none⟩ = some (.int .i64 count)) (k3 : w.cell? ⟨q3, 0, none⟩ = some (.int .i64 frm)) (k4 : w.cell? ⟨q4, 0, none⟩ = some (.int .i64 step))
    (hg0 : w.heap[g0]? = some (.cells cs0 3 (0, 0))) (hg1 : w.heap[g1]? = some (.cells cs1 3 (0, 0))) (e0 : cs0[axis.toNat]? = some (.int .i64 x0)) (e1 : cs1[axis.toNat]? = some (.int .i64 x1)) (hne : g0 ≠ g1) (hpg0 : g0 ≠ p0) (hpg1 : g1 ≠ p0)
    (hq1 : q1 ≠ p0) (hq2 : q2 ≠ p0) (hq3 : q3 ≠ p0) (hq4 : q4 ≠ p0)
    (ha : 0 ≤ axis) (ha0 : axis < n0) (ha1 : axis < n1) (h1 : count = 1) (h3 : 0 ≤ frm) (h4 : frm < x0) (h5 : -4096 ≤ step) (h6 : step ≤ 4096) (h9 : x0 ≤ 4096) (kk1 : w.heap[q1]? = some (.cells #[.int .i64 axis] 3 (0, 0))) (kk2 : w.heap[q2]? = some (.cells #[.int .i64 count] 3 (0, 0))) (kk3 : w.heap[q3]? = some (.cells #[.int .i64 frm] 3 (0, 0))) (kk4 : w.heap[q4]? = some (.cells #[.int .i64 step] 3 (0, 0))) (h14 : q1 ≠ q4) (h24 : q2 ≠ q4) (h34 : q3 ≠ q4) (hqg0 : g0 ≠ q4) (hqg1 : g1 ≠ q4) :
    Calls Try.prog 40 #[.pointer (some ⟨p0, 0, none⟩), .pointer (some ⟨q1, 0, none⟩), .pointer (some ⟨q2, 0, none⟩), .pointer (some ⟨q3, 0, none⟩), .pointer (some ⟨q4, 0, none⟩)] w fun e w' => e = .returned (.bool true) ∧
      ∃ m, w' = ((((w.setCell ⟨q4, 0, none⟩ (.int .i64 0)).setCell ⟨p0, 2, none⟩ (.int .i64 (wrap64 (o + wrap64 (frm * x1))))).setCell ⟨g0, axis.toNat, none⟩ (.int .i64 count)).setCell ⟨g1, axis.toNat, none⟩ (.int .i64 0)).drewN m := by
  subst h1
  have fq4 := blk_frozen kk4 0
  have KK := Aside0.mk (And.intro kk1 (And.intro kk2 (And.intro kk3 (And.intro h14 (And.intro h24 h34)))))
  clear kk1 kk2 kk3 kk4 h14 h24 h34
  have hc0 := (blk_cell hp 0).trans (show _ = some (Value.slice (some ⟨g0, 0, none⟩) n0 c0) from rfl)
  have hc1 := (blk_cell hp 1).trans (show _ = some (Value.slice (some ⟨g1, 0, none⟩) n1 c1) from rfl)
  have hc2 := (blk_cell hp 2).trans (show _ = some (Value.int .i64 o) from rfl)
  have hf2 := blk_frozen hp 2
  have hx0 := (blk_cell hg0 axis.toNat).trans e0
  have hx1 := (blk_cell hg1 axis.toNat).trans e1
  have HP := Aside0.mk hp
  have HG0 := Aside0.mk hg0
  have HG1 := Aside0.mk hg1
  have HE0 := Aside0.mk e0
  have HE1 := Aside0.mk e1
  have HN := Aside0.mk (show (g0 ≠ g1) ∧ (g0 ≠ p0) ∧ (g1 ≠ p0) ∧ 0 ≤ axis ∧ axis < (n0 : Int) ∧ axis < (n1 : Int) ∧ g0 ≠ q4 ∧ g1 ≠ q4 ∧ p0 ≠ q4 from ⟨hne, hpg0, hpg1, ha, ha0, ha1, hqg0, hqg1, hq4.symm⟩)
  have HA := Aside0.mk (decide_eq_true (show 0 ≤ axis ∧ axis < (n0 : Int) from ⟨ha, ha0⟩)).symm
  have b1 : decide ((1 : Int) < 1) = false := decide_eq_false (by omega)
  have b2 : decide ((4096 : Int) < 1) = false := decide_eq_false (by omega)
  have b3 : decide (frm < 0) = false := decide_eq_false (by omega)
  have b4 : decide (x0 ≤ frm) = false := decide_eq_false (by omega)
  have b5 : decide (step < -4096) = false := decide_eq_false (by omega)
  have b6 : decide (4096 < step) = false := decide_eq_false (by omega)
  have b7 : decide ((1 : Int) < 1) = false := by decide
  clear hp hg0 hg1 e0 e1 h3 h4 h5 h6 h9 hqg0 hqg1
  go_enter Try.func40, Try.ntmps40
  go_wp2
  go_quiet ((go_at_call 41; exact Calls.quiet_of_same ((isAxis_calls _ _ _ _ _ _ HA.out).mono (fun e w' h => ⟨h.1, h.2.symm⟩))))
  go_wp2
  go_quiet (fail)
  go_wp2
  generalize hW5 : World.setCell _ _ _ = W5
  have HP5 : W5.heap[p0]? = some (.cells #[.slice (some ⟨g0, 0, none⟩) n0 c0, .slice (some ⟨g1, 0, none⟩) n1 c1, .int .i64 o, .int .i64 b] 26 (0, 0)) := by rw [← hW5]; exact blk_far (p := ⟨q4, 0, none⟩) (blk_drewN HP.out _) HN.out.2.2.2.2.2.2.2.2 _
  have HG05 : W5.heap[g0]? = some (.cells cs0 3 (0, 0)) := by rw [← hW5]; exact blk_far (p := ⟨q4, 0, none⟩) (blk_drewN HG0.out _) HN.out.2.2.2.2.2.2.1 _
  have HG15 : W5.heap[g1]? = some (.cells cs1 3 (0, 0)) := by rw [← hW5]; exact blk_far (p := ⟨q4, 0, none⟩) (blk_drewN HG1.out _) HN.out.2.2.2.2.2.2.2.1 _
  have k15 : W5.cell? ⟨q1, 0, none⟩ = some (.int .i64 axis) := by rw [← hW5]; exact (blk_cell (blk_far (p := ⟨q4, 0, none⟩) (blk_drewN KK.out.1 _) KK.out.2.2.2.1 _) 0).trans rfl
  have k25 : W5.cell? ⟨q2, 0, none⟩ = some (.int .i64 1) := by rw [← hW5]; exact (blk_cell (blk_far (p := ⟨q4, 0, none⟩) (blk_drewN KK.out.2.1 _) KK.out.2.2.2.2.1 _) 0).trans rfl
  have k35 : W5.cell? ⟨q3, 0, none⟩ = some (.int .i64 frm) := by rw [← hW5]; exact (blk_cell (blk_far (p := ⟨q4, 0, none⟩) (blk_drewN KK.out.2.2.1 _) KK.out.2.2.2.2.2 _) 0).trans rfl
  have k45 : W5.cell? ⟨q4, 0, none⟩ = some (.int .i64 0) := by rw [← hW5]; exact World.cell?_setCell_same' _ _ _ (by rw [World.cell?_drewN, k4]; rfl)
  have HW5 := Aside0.mk hW5
  clear hW5 HP HG0 HG1 hc0 hc1 hc2 hf2 hx0 hx1 k1 k2 k3 k4 fq4
  have hc0 := (blk_cell HP5 0).trans (show _ = some (Value.slice (some ⟨g0, 0, none⟩) n0 c0) from rfl)
  have hc1 := (blk_cell HP5 1).trans (show _ = some (Value.slice (some ⟨g1, 0, none⟩) n1 c1) from rfl)
  have hc2 := (blk_cell HP5 2).trans (show _ = some (Value.int .i64 o) from rfl)
  have hf2 := blk_frozen HP5 2
  have hx0 := (blk_cell HG05 axis.toNat).trans HE0.out
  have hx1 := (blk_cell HG15 axis.toNat).trans HE1.out
  have HP := Aside0.mk HP5
  have HG0 := Aside0.mk HG05
  have HG1 := Aside0.mk HG15
  clear HP5 HG05 HG15
  go_quiet (fail)
  go_wp2
  go_region
  go_wp2_with (go_at_call 42; go_loud (refine (set_calls p0 g0 c0 n0 g1 c1 n1 (wrap64 (o + wrap64 (frm * x1))) b axis 1 0 x0 x1 0 _ (if_pos rfl).symm ?hp ?h0 ?h1 ?f0 ?f1 HN.out.1 HN.out.2.2.2.1 HN.out.2.2.2.2.1 HN.out.2.2.2.2.2.1).mono ?_; (case hp => exact blk_put (blk_drewN HP.out _) 2 _ rfl); (case h0 => exact (blk_cell (blk_far (blk_drewN HG0.out _) HN.out.2.1 _) _).trans HE0.out); (case h1 => exact (blk_cell (blk_far (blk_drewN HG1.out _) HN.out.2.2.1 _) _).trans HE1.out); (case f0 => exact blk_frozen (blk_far (blk_drewN HG0.out _) HN.out.2.1 _) _); (case f1 => exact blk_frozen (blk_far (blk_drewN HG1.out _) HN.out.2.2.1 _) _); rintro e w' ⟨rfl, m, rfl⟩))
  go_ret
  refine ⟨rfl, ?_⟩
  rw [← HW5.out]
  simp only [setCell_drewN, World.drewN_drewN]
  exact ⟨_, rfl⟩
/-- Slice's closure says no: of the axis, of the count. -/
theorem slice_no1 (p0 q1 q2 q3 q4 : Nat) (A0 A1 : Option Addr) (c0 n0 c1 n1 : Nat) (o b axis count frm step : Int) (w : World)
    (hp : w.heap[p0]? = some (.cells #[.slice A0 n0 c0, .slice A1 n1 c1, .int .i64 o, .int .i64 b] 26 (0, 0)))
    (k1 : w.cell? ⟨q1, 0, none⟩ = some (.int .i64 axis)) (k2 : w.cell? ⟨q2, 0, none⟩ = some (.int .i64 count)) (k3 : w.cell? ⟨q3, 0, none⟩ = some (.int .i64 frm)) (k4 : w.cell? ⟨q4, 0, none⟩ = some (.int .i64 step))
    (h : ¬ (0 ≤ axis ∧ axis < (n0 : Int)) ∨ count < 1 ∨ 4096 < count) :
    Calls Try.prog 40 #[.pointer (some ⟨p0, 0, none⟩), .pointer (some ⟨q1, 0, none⟩), .pointer (some ⟨q2, 0, none⟩), .pointer (some ⟨q3, 0, none⟩), .pointer (some ⟨q4, 0, none⟩)] w fun e w' => e = .returned (.bool false) ∧ ∃ m, w' = w.drewN m := by
  have hc0 := (blk_cell hp 0).trans (show _ = some (Value.slice A0 n0 c0) from rfl)
  clear hp
  by_cases h1 : 0 ≤ axis ∧ axis < (n0 : Int)
  · have HA := Aside0.mk (decide_eq_true h1).symm
    by_cases h2 : count < 1
    · have h2b : decide (count < 1) = true := decide_eq_true h2
      clear h h1 h2
      go_enter Try.func40, Try.ntmps40
      go_wp2
      go_quiet ((go_at_call 41; exact Calls.quiet_of_same ((isAxis_calls _ _ _ _ _ _ HA.out).mono (fun e w' h => ⟨h.1, h.2.symm⟩))))
      go_wp2
      go_ret
      exact ⟨rfl, _, rfl⟩
    · have h2b : decide (count < 1) = false := decide_eq_false h2
      have h3b : decide (4096 < count) = true := decide_eq_true (by rcases h with h | h | h; exact absurd h1 h; exact absurd h h2; exact h)
      clear h h1 h2
      go_enter Try.func40, Try.ntmps40
      go_wp2
      go_quiet ((go_at_call 41; exact Calls.quiet_of_same ((isAxis_calls _ _ _ _ _ _ HA.out).mono (fun e w' h => ⟨h.1, h.2.symm⟩))))
      go_wp2
      go_ret
      exact ⟨rfl, _, rfl⟩
  · have HA := Aside0.mk (decide_eq_false h1).symm
    clear h h1
    go_enter Try.func40, Try.ntmps40
    go_wp2
    go_quiet ((go_at_call 41; exact Calls.quiet_of_same ((isAxis_calls _ _ _ _ _ _ HA.out).mono (fun e w' h => ⟨h.1, h.2.symm⟩))))
    go_wp2
    go_ret
    exact ⟨rfl, _, rfl⟩
set_option maxHeartbeats 2000000 in
set_option maxRecDepth 100000 in
theorem slice_no2 (p0 q1 q2 q3 q4 g0 c0 n0 : Nat) (v1 : Value) (o b axis count frm step x0 : Int) (w : World)
    (hp : w.heap[p0]? = some (.cells #[.slice (some ⟨g0, 0, none⟩) n0 c0, v1, .int .i64 o, .int .i64 b] 26 (0, 0)))
    (k1 : w.cell? ⟨q1, 0, none⟩ = some (.int .i64 axis)) (k2 : w.cell? ⟨q2, 0, none⟩ = some (.int .i64 count)) (k3 : w.cell? ⟨q3, 0, none⟩ = some (.int .i64 frm)) (k4 : w.cell? ⟨q4, 0, none⟩ = some (.int .i64 step))
    (hx0 : w.cell? ⟨g0, axis.toNat, none⟩ = some (.int .i64 x0)) (ha : 0 ≤ axis) (ha0 : axis < n0) (h1 : 1 ≤ count) (h2 : count ≤ 4096)
    (h : frm < 0 ∨ x0 ≤ frm ∨ step < -4096 ∨ 4096 < step ∨ (1 < count ∧ (frm + step * (count - 1) < 0 ∨ x0 ≤ frm + step * (count - 1)))) (h9 : x0 ≤ 4096) :
    Calls Try.prog 40 #[.pointer (some ⟨p0, 0, none⟩), .pointer (some ⟨q1, 0, none⟩), .pointer (some ⟨q2, 0, none⟩), .pointer (some ⟨q3, 0, none⟩), .pointer (some ⟨q4, 0, none⟩)] w fun e w' => e = .returned (.bool false) ∧ ∃ m, w' = w.drewN m := by
  have hc0 := (blk_cell hp 0).trans (show _ = some (Value.slice (some ⟨g0, 0, none⟩) n0 c0) from rfl)
  have HA := Aside0.mk (decide_eq_true (show 0 ≤ axis ∧ axis < (n0 : Int) from ⟨ha, ha0⟩)).symm
  have b1 : decide (count < 1) = false := decide_eq_false (by omega)
  have b2 : decide (4096 < count) = false := decide_eq_false (by omega)
  clear hp
  by_cases b3' : frm < 0
  · have b3 : decide (frm < 0) = true := decide_eq_true b3'
    clear h h1 h2 h9 b3'
    go_enter Try.func40, Try.ntmps40
    go_wp2
    go_quiet ((go_at_call 41; exact Calls.quiet_of_same ((isAxis_calls _ _ _ _ _ _ HA.out).mono (fun e w' h => ⟨h.1, h.2.symm⟩))))
    go_wp2
    go_quiet (fail)
    go_wp2
    go_ret
    exact ⟨rfl, _, rfl⟩
  · have b3 : decide (frm < 0) = false := decide_eq_false b3'
    by_cases b4' : x0 ≤ frm
    · have b4 : decide (x0 ≤ frm) = true := decide_eq_true b4'
      clear h h1 h2 h9 b3' b4'
      go_enter Try.func40, Try.ntmps40
      go_wp2
      go_quiet ((go_at_call 41; exact Calls.quiet_of_same ((isAxis_calls _ _ _ _ _ _ HA.out).mono (fun e w' h => ⟨h.1, h.2.symm⟩))))
      go_wp2
      go_quiet (fail)
      go_wp2
      go_ret
      exact ⟨rfl, _, rfl⟩
    · have b4 : decide (x0 ≤ frm) = false := decide_eq_false b4'
      by_cases b5' : step < -4096
      · have b5 : decide (step < -4096) = true := decide_eq_true b5'
        clear h h1 h2 h9 b3' b4' b5'
        go_enter Try.func40, Try.ntmps40
        go_wp2
        go_quiet ((go_at_call 41; exact Calls.quiet_of_same ((isAxis_calls _ _ _ _ _ _ HA.out).mono (fun e w' h => ⟨h.1, h.2.symm⟩))))
        go_wp2
        go_quiet (fail)
        go_wp2
        go_ret
        exact ⟨rfl, _, rfl⟩
      · have b5 : decide (step < -4096) = false := decide_eq_false b5'
        by_cases b6' : 4096 < step
        · have b6 : decide (4096 < step) = true := decide_eq_true b6'
          clear h h1 h2 h9 b3' b4' b5' b6'
          go_enter Try.func40, Try.ntmps40
          go_wp2
          go_quiet ((go_at_call 41; exact Calls.quiet_of_same ((isAxis_calls _ _ _ _ _ _ HA.out).mono (fun e w' h => ⟨h.1, h.2.symm⟩))))
          go_wp2
          go_quiet (fail)
          go_wp2
          go_ret
          exact ⟨rfl, _, rfl⟩
        · have b6 : decide (4096 < step) = false := decide_eq_false b6'
          obtain ⟨b7', h⟩ : 1 < count ∧ (frm + step * (count - 1) < 0 ∨ x0 ≤ frm + step * (count - 1)) := by rcases h with h | h | h | h | h; exact absurd h b3'; exact absurd h b4'; exact absurd h b5'; exact absurd h b6'; exact h
          have b7 : decide (1 < count) = true := decide_eq_true b7'
          have hw1 : wrap64 (count - 1) = count - 1 := by unfold wrap64; omega
          have hm0 : -4096 * 4096 ≤ step * (count - 1) := by
            have := Int.mul_le_mul_of_nonneg_right (show -4096 ≤ step by omega) (show 0 ≤ count - 1 by omega)
            omega
          have hm1 : step * (count - 1) ≤ 4096 * 4096 := by
            have := Int.mul_le_mul_of_nonneg_right (show step ≤ 4096 by omega) (show 0 ≤ count - 1 by omega)
            omega
          have hl : wrap64 (frm + wrap64 (step * (count - 1))) = frm + step * (count - 1) := by unfold wrap64; omega
          by_cases b8' : frm + step * (count - 1) < 0
          · have b8 : decide (frm + step * (count - 1) < 0) = true := decide_eq_true b8'
            clear h h1 h2 h9 b3' b4' b5' b6' b7' b8' hm0 hm1
            go_enter Try.func40, Try.ntmps40
            go_wp2
            go_quiet ((go_at_call 41; exact Calls.quiet_of_same ((isAxis_calls _ _ _ _ _ _ HA.out).mono (fun e w' h => ⟨h.1, h.2.symm⟩))))
            go_wp2
            go_quiet (fail)
            go_wp2
            go_ret
            exact ⟨rfl, _, rfl⟩
          · have b8 : decide (frm + step * (count - 1) < 0) = false := decide_eq_false b8'
            have b9 : decide (x0 ≤ frm + step * (count - 1)) = true := decide_eq_true (by omega)
            clear h h1 h2 h9 b3' b4' b5' b6' b7' b8' hm0 hm1
            go_enter Try.func40, Try.ntmps40
            go_wp2
            go_quiet ((go_at_call 41; exact Calls.quiet_of_same ((isAxis_calls _ _ _ _ _ _ HA.out).mono (fun e w' h => ⟨h.1, h.2.symm⟩))))
            go_wp2
            go_quiet (fail)
            go_wp2
            go_ret
            exact ⟨rfl, _, rfl⟩
/-- What Slice's closure does to a view's numbers. -/
def impl_Slice.by (l0 l1 : List Int) (o b axis count frm step : Int) : Option (Bool × List Int × List Int × Int × Int) :=
  if ¬ (0 ≤ axis ∧ axis < (l0.length : Int)) ∨ count < 1 ∨ 4096 < count then some (false, l0, l1, o, b)
  else if ¬ (axis < (l1.length : Int) ∧ rd l0 axis ≤ 4096) then none
  else if frm < 0 ∨ rd l0 axis ≤ frm ∨ step < -4096 ∨ 4096 < step ∨ (1 < count ∧ (frm + step * (count - 1) < 0 ∨ rd l0 axis ≤ frm + step * (count - 1))) then some (false, l0, l1, o, b)
  else some (true, l0.set axis.toNat count, l1.set axis.toNat (if count = 1 then 0 else wrap64 (rd l1 axis * step)), wrap64 (o + wrap64 (frm * rd l1 axis)), b)
set_option maxHeartbeats 1000000 in
theorem impl_Slice.closure (wT W : World) (B q1 q2 q3 q4 : Nat) (axis count frm step : Int) (gw : Nat) (A0 A1 : Option Addr) (d0 d1 : Nat) (l0 l1 : List Int) (o b : Int) (rb : Bool) (m0 m1 : List Int) (m2 m3 : Int)
    (kk1 : wT.heap[q1]? = some (.cells #[.int .i64 axis] 3 (0, 0))) (kk2 : wT.heap[q2]? = some (.cells #[.int .i64 count] 3 (0, 0))) (kk3 : wT.heap[q3]? = some (.cells #[.int .i64 frm] 3 (0, 0))) (kk4 : wT.heap[q4]? = some (.cells #[.int .i64 step] 3 (0, 0)))
    (h14 : q1 ≠ q4) (h24 : q2 ≠ q4) (h34 : q3 ≠ q4) (hBq : B ≤ q4) (hBT : B ≤ wT.heap.size) (w0 : World) (hB0 : Below B w0 wT) (hbW : Below wT.heap.size wT W) (hgw : wT.heap.size ≤ gw)
    (hp : W.heap[gw]? = some (.cells #[.slice A0 l0.length d0, .slice A1 l1.length d1, .int .i64 o, .int .i64 b] 26 (0, 0)))
    (h0 : Kd.R (Kd.int .i64) 3 W wT.heap.size (fun k_ => some k_ ≠ (.slice A1 l1.length d1 : Value).ownBlock) (.slice A0 l0.length d0) l0) (h1 : Kd.R (Kd.int .i64) 3 W wT.heap.size (fun k_ => some k_ ≠ (.slice A0 l0.length d0 : Value).ownBlock) (.slice A1 l1.length d1) l1)
    (hf : impl_Slice.by l0 l1 o b axis count frm step = some (rb, m0, m1, m2, m3)) :
    Calls Try.prog 40 #[.pointer (some ⟨gw, 0, none⟩), .pointer (some ⟨q1, 0, none⟩), .pointer (some ⟨q2, 0, none⟩), .pointer (some ⟨q3, 0, none⟩), .pointer (some ⟨q4, 0, none⟩)] W (ViewBy w0 W wT.heap.size B gw rb m0 m1 m2 m3) := by
  have f1 := blk_below kk1 hbW
  have f2 := blk_below kk2 hbW
  have f3 := blk_below kk3 hbW
  have f4 := blk_below kk4 hbW
  have k1 : W.cell? ⟨q1, 0, none⟩ = some (.int .i64 axis) := (blk_cell f1 0).trans rfl
  have k2 : W.cell? ⟨q2, 0, none⟩ = some (.int .i64 count) := (blk_cell f2 0).trans rfl
  have k3 : W.cell? ⟨q3, 0, none⟩ = some (.int .i64 frm) := (blk_cell f3 0).trans rfl
  have k4 : W.cell? ⟨q4, 0, none⟩ = some (.int .i64 step) := (blk_cell f4 0).trans rfl
  have l1' := blk_lt kk1
  have l2' := blk_lt kk2
  have l3' := blk_lt kk3
  have l4' := blk_lt kk4
  have hBW : Below B w0 W := below_then hB0 hBT hbW
  unfold impl_Slice.by at hf
  by_cases c1 : ¬ (0 ≤ axis ∧ axis < (l0.length : Int)) ∨ count < 1 ∨ 4096 < count
  · rw [if_pos c1] at hf
    simp only [Option.some.injEq, Prod.mk.injEq] at hf
    obtain ⟨rfl, rfl, rfl, rfl, rfl⟩ := hf
    refine (slice_no1 gw q1 q2 q3 q4 A0 A1 d0 l0.length d1 l1.length o b axis count frm step W hp k1 k2 k3 k4 c1).mono ?_
    rintro e w' ⟨rfl, m, rfl⟩
    exact ViewBy.same m false hp h0 h1 hBW
  · rw [if_neg c1] at hf
    by_cases c2 : ¬ (axis < (l1.length : Int) ∧ rd l0 axis ≤ 4096)
    · rw [if_pos c2] at hf
      cases hf
    · rw [if_neg c2] at hf
      have ha : 0 ≤ axis ∧ axis < (l0.length : Int) := by
        by_cases z : 0 ≤ axis ∧ axis < (l0.length : Int)
        · exact z
        · exact absurd (Or.inl z) c1
      have ha2 : axis < (l1.length : Int) ∧ rd l0 axis ≤ 4096 := by
        by_cases z : axis < (l1.length : Int) ∧ rd l0 axis ≤ 4096
        · exact z
        · exact absurd z c2
      have hc1 : 1 ≤ count := by
        by_cases z : count < 1
        · exact absurd (Or.inr (Or.inl z)) c1
        · omega
      have hc2 : count ≤ 4096 := by
        by_cases z : 4096 < count
        · exact absurd (Or.inr (Or.inr z)) c1
        · omega
      obtain ⟨g0, cap0, e0, b0, s0, cs0, hg0⟩ := Kd.R_form h0 (by omega)
      obtain ⟨g1, cap1, e1, b1, s1, cs1, hg1⟩ := Kd.R_form h1 (by omega)
      injection e0 with ea _ ec
      subst ea
      subst ec
      injection e1 with ea _ ec
      subst ea
      subst ec
      have x0 := (Kd.R_celln 0 h0 axis ha.1 ha.2).1
      have x1 := (Kd.R_celln 0 h1 axis ha.1 ha2.1).1
      by_cases c3 : frm < 0 ∨ rd l0 axis ≤ frm ∨ step < -4096 ∨ 4096 < step ∨ (1 < count ∧ (frm + step * (count - 1) < 0 ∨ rd l0 axis ≤ frm + step * (count - 1)))
      · rw [if_pos c3] at hf
        simp only [Option.some.injEq, Prod.mk.injEq] at hf
        obtain ⟨rfl, rfl, rfl, rfl, rfl⟩ := hf
        refine (slice_no2 gw q1 q2 q3 q4 g0 d0 l0.length _ o b axis count frm step (rd l0 axis) W hp k1 k2 k3 k4 x0 ha.1 ha.2 hc1 hc2 c3 ha2.2).mono ?_
        rintro e w' ⟨rfl, m, rfl⟩
        exact ViewBy.same m false hp h0 h1 hBW
      · rw [if_neg c3] at hf
        simp only [Option.some.injEq, Prod.mk.injEq] at hf
        obtain ⟨rfl, rfl, rfl, rfl, rfl⟩ := hf
        have e0 : g0 ≠ g1 := by
          have := h0.1 g0 rfl
          intro e
          exact this (by rw [e]; rfl)
        have n0 : g0 ≠ gw := (blk_ne hp hg0 (by decide)).symm
        have n1 : g1 ≠ gw := (blk_ne hp hg1 (by decide)).symm
        have y0 := (blk_cell hg0 axis.toNat).symm.trans x0
        have y1 := (blk_cell hg1 axis.toNat).symm.trans x1
        have t1 : 0 ≤ frm := by
          by_cases z : frm < 0
          · exact absurd (Or.inl z) c3
          · omega
        have t2 : frm < rd l0 axis := by
          by_cases z : rd l0 axis ≤ frm
          · exact absurd (Or.inr (Or.inl z)) c3
          · omega
        have t3 : -4096 ≤ step := by
          by_cases z : step < -4096
          · exact absurd (Or.inr (Or.inr (Or.inl z))) c3
          · omega
        have t4 : step ≤ 4096 := by
          by_cases z : 4096 < step
          · exact absurd (Or.inr (Or.inr (Or.inr (Or.inl z)))) c3
          · omega
        by_cases c4 : count = 1
        · rw [if_pos c4]
          refine (slice_one gw q1 q2 q3 q4 g0 g1 d0 l0.length d1 l1.length o b axis count frm step (rd l0 axis) (rd l1 axis) cs0 cs1 W hp k1 k2 k3 k4 hg0 hg1 y0 y1 e0 n0 n1 (by omega) (by omega) (by omega) (by omega) ha.1 ha.2 ha2.1 c4 t1 t2 t3 t4 ha2.2 f1 f2 f3 f4 h14 h24 h34 (by omega) (by omega)).mono ?_
          rintro e w' ⟨rfl, m, rfl⟩
          have hp' := blk_far (p := ⟨q4, 0, none⟩) hp (show gw ≠ q4 by omega) (.int .i64 0)
          have h0' := Kd.R_far (p := ⟨q4, 0, none⟩) (Kd.R_bound h0) (fun k hk e => by have := hk.2.1; rw [e] at this; exact absurd l4' (Nat.not_lt.2 this)) (.int .i64 0)
          have h1' := Kd.R_far (p := ⟨q4, 0, none⟩) (Kd.R_bound h1) (fun k hk e => by have := hk.2.1; rw [e] at this; exact absurd l4' (Nat.not_lt.2 this)) (.int .i64 0)
          have key := ViewBy.put (w0 := w0) (B := B) m axis count 0 (wrap64 (o + wrap64 (frm * rd l1 axis))) ha.1 hp' (Kd.R_mono h0' (fun _ hk => hk.1)) (Kd.R_mono h1' (fun _ hk => hk.1)) (hBW.setCell (p := ⟨q4, 0, none⟩) hBq _) hBT (by omega)
          obtain ⟨v0, v1, z1, z2, z3, z4, z5, z6, z7⟩ := key
          refine ⟨v0, v1, z1, z2, z3, z4, fun g cs hg h => z5 g cs hg (blk_far h ?_ _), by simp, z7⟩
          exact blk_ne h f4 (by decide)
        · rw [if_neg c4]
          have c5 : ¬ (frm + step * (count - 1) < 0) := fun z => c3 (Or.inr (Or.inr (Or.inr (Or.inr ⟨by omega, Or.inl z⟩))))
          have c6 : ¬ (rd l0 axis ≤ frm + step * (count - 1)) := fun z => c3 (Or.inr (Or.inr (Or.inr (Or.inr ⟨by omega, Or.inr z⟩))))
          refine (slice_yes gw q1 q2 q3 q4 g0 g1 d0 l0.length d1 l1.length o b axis count frm step (rd l0 axis) (rd l1 axis) cs0 cs1 W hp k1 k2 k3 k4 hg0 hg1 y0 y1 e0 n0 n1 (by omega) (by omega) (by omega) (by omega) ha.1 ha.2 ha2.1 (by omega) hc2 t1 t2 t3 t4 (by omega) (by omega) ha2.2).mono ?_
          rintro e w' ⟨rfl, m, rfl⟩
          exact ViewBy.put m axis count _ _ ha.1 hp h0 h1 hBW hBT (by omega)
def impl_Slice.f (k : Nat) (l0_0 : List Int) (l0_1 : List Int) (a0_2 : Int) (a0_3 : Int) (a1 : Int) (a2 : Int) (a3 : Int) (a4 : Int) : Option (List Int × List Int × Int × Int) :=
  (impl_ViewOk.f k l0_0 l0_1 a0_2 a0_3).bind fun t => if t = true then (slices_Clone_int_int.f l0_0).bind fun x0 => (slices_Clone_int_int.f l0_1).bind fun x1 => (impl_Slice.by x0 x1 a0_2 a0_3 a1 a3 a2 a4).bind fun q =>
    if q.1 = true then (impl_ViewOk.f k q.2.1 q.2.2.1 q.2.2.2.1 q.2.2.2.2).bind fun t2 => if t2 = true then some q.2 else some ([], [], 0, 0) else some ([], [], 0, 0) else some ([], [], 0, 0)
theorem impl_Slice.mono : ∀ a0 a1 a2 a3 a4 a5 a6 a7 k, LeO (impl_Slice.f k a0 a1 a2 a3 a4 a5 a6 a7) (impl_Slice.f (k + 1) a0 a1 a2 a3 a4 a5 a6 a7) := by
  intro a0 a1 a2 a3 a4 a5 a6 a7 k
  unfold impl_Slice.f
  repeat' first
      | (with_reducible exact impl_ViewOk.mono _ _ _ _ _)
      | (with_reducible exact LeO.refl _)
      | (with_reducible exact LeO.none _)
      | (with_reducible refine LeO.ite ?_ ?_)
      | (with_reducible refine LeO.bind ?_ (fun _ => ?_))

set_option maxHeartbeats 8000000 in
set_option maxRecDepth 100000 in
theorem impl_Slice.own (k : Nat) (A0_0 : Option Addr) (c0_0 : Nat) (l0_0 : List Int) (A0_1 : Option Addr) (c0_1 : Nat) (l0_1 : List Int) (a0_2 : Int) (a0_3 : Int) (a1 : Int) (a2 : Int) (a3 : Int) (a4 : Int) (r1 : List Int) (r2 : List Int) (r3 : Int) (r4 : Int) (w : World) (hr0_0 : Kd.C (Kd.int .i64) w A0_0 l0_0.length l0_0) (hc0_0 : l0_0.length ≤ c0_0) (hr0_1 : Kd.C (Kd.int .i64) w A0_1 l0_1.length l0_1) (hc0_1 : l0_1.length ≤ c0_1) (h : impl_Slice.f k l0_0 l0_1 a0_2 a0_3 a1 a2 a3 a4 = some (r1, r2, r3, r4)) :
    Calls Try.prog 12 #[.agg #[.slice A0_0 l0_0.length c0_0, .slice A0_1 l0_1.length c0_1, .int .i64 a0_2, .int .i64 a0_3], .int .i64 a1, .int .i64 a2, .int .i64 a3, .int .i64 a4] w fun e w' => ∃ v0_ v1_ : Value, e = .returned (.agg #[v0_, v1_, .int .i64 r3, .int .i64 r4]) ∧ Kd.R (Kd.int .i64) 3 w' w.heap.size (fun k_ => some k_ ≠ (v1_ : Value).ownBlock) v0_ r1 ∧ Kd.R (Kd.int .i64) 3 w' w.heap.size (fun k_ => some k_ ≠ (v0_ : Value).ownBlock) v1_ r2 ∧ Below w.heap.size w w' := by
  have hu26 := Try.underlying26
  have HR0_0 := Aside0.mk hr0_0
  have HC0_0 := Aside0.mk hc0_0
  have HR0_1 := Aside0.mk hr0_1
  have HC0_1 := Aside0.mk hc0_1
  clear hr0_0 hc0_0 hr0_1 hc0_1
  have HB := Aside0.mk (Below.refl w.heap.size w)
  unfold impl_Slice.f at h
  obtain ⟨t, hv, h⟩ := Option.bind_eq_some_iff.mp h
  have HV := Aside0.mk hv
  clear hv
  cases t with
  | false =>
    rw [if_neg (by simp)] at h
    simp only [Option.some.injEq, Prod.mk.injEq] at h
    obtain ⟨rfl, rfl, rfl, rfl⟩ := h
    have hmf : ∀ (fn : Fn) (first cap : Array Value) (w : World), (Instr.makeFunc fn first cap).run Try.prog w = .ok (.func fn first cap) w := fun _ _ _ _ => rfl
    go_enter Try.func12, Try.ntmps12
    go_wp2_with (first | ((with_reducible refine gate_dst (N := 5) rfl ?_); refine box_event ?hg (N := 5) ?hd (cs := #[.slice A0_0 l0_0.length c0_0, .slice A0_1 l0_1.length c0_1, .int .i64 a0_2, .int .i64 a0_3]) (t := 26) ?hr ?_; (case hd => rfl); (case hg => rfl); (case hr => first | (go_simp; done) | (go_simp; rfl)); intro gv hg_gv w_gv hbox hb; have ng_ := Aside0.mk (by rw [hg_gv]; exact (below_size (by repeat (first | (with_reducible first | exact HB.out | apply below_alloc | apply pw_below_drewN | apply below_drew1) | exact HB.out))) : w.heap.size ≤ gv); have nb_ := Aside0.mk (below_step (by repeat (first | (with_reducible first | exact HB.out | apply below_alloc | apply pw_below_drewN | apply below_drew1) | exact HB.out)) hb); clear HB ; have HB := nb_; clear nb_  hb; have BKv := Aside0.mk hbox; have GBKv := ng_; clear hbox ng_ hg_gv) | ((with_reducible refine gate_dst (N := 6) rfl ?_); refine box_event ?hg (N := 6) ?hd (cs := #[.int .i64 a1]) (t := 3) ?hr ?_; (case hd => rfl); (case hg => rfl); (case hr => first | (go_simp; done) | (go_simp; rfl)); intro gq1 hg_gq1 w_gq1 hbox hb; have ng_ := Aside0.mk (by rw [hg_gq1]; exact (below_size (by repeat (first | (with_reducible first | exact HB.out | apply below_alloc | apply pw_below_drewN | apply below_drew1) | exact HB.out))) : w.heap.size ≤ gq1); have nb_ := Aside0.mk (below_step (by repeat (first | (with_reducible first | exact HB.out | apply below_alloc | apply pw_below_drewN | apply below_drew1) | exact HB.out)) hb); have n0_ := Aside0.mk (blk_below (g := gv) (o := .cells #[.slice A0_0 l0_0.length c0_0, .slice A0_1 l0_1.length c0_1, .int .i64 a0_2, .int .i64 a0_3] 26 (0, 0)) (by (with_reducible repeat (first | refine blk_drewN ?_ _ | refine blk_drew ?_ | refine blk_alloc ?_ _)); exact BKv.out) hb); clear HB BKv; have HB := nb_; have BKv := n0_; clear nb_ n0_ hb; have BKgq1 := Aside0.mk hbox; have GBKgq1 := ng_; clear hbox ng_ hg_gq1) | ((with_reducible refine gate_dst (N := 7) rfl ?_); refine box_event ?hg (N := 7) ?hd (cs := #[.int .i64 a2]) (t := 3) ?hr ?_; (case hd => rfl); (case hg => rfl); (case hr => first | (go_simp; done) | (go_simp; rfl)); intro gq2 hg_gq2 w_gq2 hbox hb; have ng_ := Aside0.mk (by rw [hg_gq2]; exact (below_size (by repeat (first | (with_reducible first | exact HB.out | apply below_alloc | apply pw_below_drewN | apply below_drew1) | exact HB.out))) : w.heap.size ≤ gq2); have nb_ := Aside0.mk (below_step (by repeat (first | (with_reducible first | exact HB.out | apply below_alloc | apply pw_below_drewN | apply below_drew1) | exact HB.out)) hb); have n0_ := Aside0.mk (blk_below (g := gv) (o := .cells #[.slice A0_0 l0_0.length c0_0, .slice A0_1 l0_1.length c0_1, .int .i64 a0_2, .int .i64 a0_3] 26 (0, 0)) (by (with_reducible repeat (first | refine blk_drewN ?_ _ | refine blk_drew ?_ | refine blk_alloc ?_ _)); exact BKv.out) hb); have n1_ := Aside0.mk (blk_below (g := gq1) (o := .cells #[.int .i64 a1] 3 (0, 0)) (by (with_reducible repeat (first | refine blk_drewN ?_ _ | refine blk_drew ?_ | refine blk_alloc ?_ _)); exact BKgq1.out) hb); clear HB BKv BKgq1; have HB := nb_; have BKv := n0_; have BKgq1 := n1_; clear nb_ n0_ n1_ hb; have BKgq2 := Aside0.mk hbox; have GBKgq2 := ng_; clear hbox ng_ hg_gq2) | ((with_reducible refine gate_dst (N := 8) rfl ?_); refine box_event ?hg (N := 8) ?hd (cs := #[.int .i64 a3]) (t := 3) ?hr ?_; (case hd => rfl); (case hg => rfl); (case hr => first | (go_simp; done) | (go_simp; rfl)); intro gq3 hg_gq3 w_gq3 hbox hb; have ng_ := Aside0.mk (by rw [hg_gq3]; exact (below_size (by repeat (first | (with_reducible first | exact HB.out | apply below_alloc | apply pw_below_drewN | apply below_drew1) | exact HB.out))) : w.heap.size ≤ gq3); have nb_ := Aside0.mk (below_step (by repeat (first | (with_reducible first | exact HB.out | apply below_alloc | apply pw_below_drewN | apply below_drew1) | exact HB.out)) hb); have n0_ := Aside0.mk (blk_below (g := gv) (o := .cells #[.slice A0_0 l0_0.length c0_0, .slice A0_1 l0_1.length c0_1, .int .i64 a0_2, .int .i64 a0_3] 26 (0, 0)) (by (with_reducible repeat (first | refine blk_drewN ?_ _ | refine blk_drew ?_ | refine blk_alloc ?_ _)); exact BKv.out) hb); have n1_ := Aside0.mk (blk_below (g := gq1) (o := .cells #[.int .i64 a1] 3 (0, 0)) (by (with_reducible repeat (first | refine blk_drewN ?_ _ | refine blk_drew ?_ | refine blk_alloc ?_ _)); exact BKgq1.out) hb); have n2_ := Aside0.mk (blk_below (g := gq2) (o := .cells #[.int .i64 a2] 3 (0, 0)) (by (with_reducible repeat (first | refine blk_drewN ?_ _ | refine blk_drew ?_ | refine blk_alloc ?_ _)); exact BKgq2.out) hb); clear HB BKv BKgq1 BKgq2; have HB := nb_; have BKv := n0_; have BKgq1 := n1_; have BKgq2 := n2_; clear nb_ n0_ n1_ n2_ hb; have BKgq3 := Aside0.mk hbox; have GBKgq3 := ng_; clear hbox ng_ hg_gq3) | ((with_reducible refine gate_dst (N := 9) rfl ?_); refine box_event ?hg (N := 9) ?hd (cs := #[.int .i64 a4]) (t := 3) ?hr ?_; (case hd => rfl); (case hg => rfl); (case hr => first | (go_simp; done) | (go_simp; rfl)); intro gq4 hg_gq4 w_gq4 hbox hb; have L14 := Aside0.mk (show gq1 < gq4 by rw [hg_gq4]; exact blk_lt BKgq1.out); have L24 := Aside0.mk (show gq2 < gq4 by rw [hg_gq4]; exact blk_lt BKgq2.out); have L34 := Aside0.mk (show gq3 < gq4 by rw [hg_gq4]; exact blk_lt BKgq3.out); have ng_ := Aside0.mk (by rw [hg_gq4]; exact (below_size (by repeat (first | (with_reducible first | exact HB.out | apply below_alloc | apply pw_below_drewN | apply below_drew1) | exact HB.out))) : w.heap.size ≤ gq4); have nb_ := Aside0.mk (below_step (by repeat (first | (with_reducible first | exact HB.out | apply below_alloc | apply pw_below_drewN | apply below_drew1) | exact HB.out)) hb); have n0_ := Aside0.mk (blk_below (g := gv) (o := .cells #[.slice A0_0 l0_0.length c0_0, .slice A0_1 l0_1.length c0_1, .int .i64 a0_2, .int .i64 a0_3] 26 (0, 0)) (by (with_reducible repeat (first | refine blk_drewN ?_ _ | refine blk_drew ?_ | refine blk_alloc ?_ _)); exact BKv.out) hb); have n1_ := Aside0.mk (blk_below (g := gq1) (o := .cells #[.int .i64 a1] 3 (0, 0)) (by (with_reducible repeat (first | refine blk_drewN ?_ _ | refine blk_drew ?_ | refine blk_alloc ?_ _)); exact BKgq1.out) hb); have n2_ := Aside0.mk (blk_below (g := gq2) (o := .cells #[.int .i64 a2] 3 (0, 0)) (by (with_reducible repeat (first | refine blk_drewN ?_ _ | refine blk_drew ?_ | refine blk_alloc ?_ _)); exact BKgq2.out) hb); have n3_ := Aside0.mk (blk_below (g := gq3) (o := .cells #[.int .i64 a3] 3 (0, 0)) (by (with_reducible repeat (first | refine blk_drewN ?_ _ | refine blk_drew ?_ | refine blk_alloc ?_ _)); exact BKgq3.out) hb); clear HB BKv BKgq1 BKgq2 BKgq3; have HB := nb_; have BKv := n0_; have BKgq1 := n1_; have BKgq2 := n2_; have BKgq3 := n3_; clear nb_ n0_ n1_ n2_ n3_ hb; have BKgq4 := Aside0.mk hbox; have GBKgq4 := ng_; clear hbox ng_ hg_gq4) | ((with_reducible refine gate_dst (N := 10) rfl ?_); refine box_event ?hg (N := 10) ?hd (cs := #[.slice none 0 0, .slice none 0 0, .int .i64 0, .int .i64 0]) (t := 26) ?hr ?_; (case hd => rfl); (case hg => rfl); (case hr => first | (go_simp; done) | (go_simp; rfl)); intro gr hg_gr w_gr hbox hb; have ng_ := Aside0.mk (by rw [hg_gr]; exact (below_size (by repeat (first | (with_reducible first | exact HB.out | apply below_alloc | apply pw_below_drewN | apply below_drew1) | exact HB.out))) : w.heap.size ≤ gr); have nb_ := Aside0.mk (below_step (by repeat (first | (with_reducible first | exact HB.out | apply below_alloc | apply pw_below_drewN | apply below_drew1) | exact HB.out)) hb); have n0_ := Aside0.mk (blk_below (g := gv) (o := .cells #[.slice A0_0 l0_0.length c0_0, .slice A0_1 l0_1.length c0_1, .int .i64 a0_2, .int .i64 a0_3] 26 (0, 0)) (by (with_reducible repeat (first | refine blk_drewN ?_ _ | refine blk_drew ?_ | refine blk_alloc ?_ _)); exact BKv.out) hb); have n1_ := Aside0.mk (blk_below (g := gq1) (o := .cells #[.int .i64 a1] 3 (0, 0)) (by (with_reducible repeat (first | refine blk_drewN ?_ _ | refine blk_drew ?_ | refine blk_alloc ?_ _)); exact BKgq1.out) hb); have n2_ := Aside0.mk (blk_below (g := gq2) (o := .cells #[.int .i64 a2] 3 (0, 0)) (by (with_reducible repeat (first | refine blk_drewN ?_ _ | refine blk_drew ?_ | refine blk_alloc ?_ _)); exact BKgq2.out) hb); have n3_ := Aside0.mk (blk_below (g := gq3) (o := .cells #[.int .i64 a3] 3 (0, 0)) (by (with_reducible repeat (first | refine blk_drewN ?_ _ | refine blk_drew ?_ | refine blk_alloc ?_ _)); exact BKgq3.out) hb); have n4_ := Aside0.mk (blk_below (g := gq4) (o := .cells #[.int .i64 a4] 3 (0, 0)) (by (with_reducible repeat (first | refine blk_drewN ?_ _ | refine blk_drew ?_ | refine blk_alloc ?_ _)); exact BKgq4.out) hb); clear HB BKv BKgq1 BKgq2 BKgq3 BKgq4; have HB := nb_; have BKv := n0_; have BKgq1 := n1_; have BKgq2 := n2_; have BKgq3 := n3_; have BKgq4 := n4_; clear nb_ n0_ n1_ n2_ n3_ n4_ hb; have BKr := Aside0.mk hbox; have GBKr := ng_; clear hbox ng_ hg_gr; have hcv0 : w_gr.cell? ⟨gv, 0, none⟩ = some (.slice A0_0 l0_0.length c0_0) := (blk_cell BKv.out 0).trans rfl; have hcv1 : w_gr.cell? ⟨gv, 1, none⟩ = some (.slice A0_1 l0_1.length c0_1) := (blk_cell BKv.out 1).trans rfl; have hcv2 : w_gr.cell? ⟨gv, 2, none⟩ = some (.int .i64 a0_2) := (blk_cell BKv.out 2).trans rfl; have hcv3 : w_gr.cell? ⟨gv, 3, none⟩ = some (.int .i64 a0_3) := (blk_cell BKv.out 3).trans rfl; have QN := Aside0.mk (show gq1 < gq4 ∧ gq2 < gq4 ∧ gq3 < gq4 from ⟨L14.out, L24.out, L34.out⟩)) | (go_at_call 39; refine (impl_turn.no k _ _ _ _ l0_0 _ _ l0_1 a0_2 a0_3 _ ?s1 HC0_0.out ?s3 HC0_1.out HV.out).mono ?_; (case s1 => repeat (first | exact (Kd.C_below HR0_0.out HB.out) | (with_reducible refine Kd.C_alloc ?_ _) | (with_reducible refine Kd.C_drewN ?_ _) | (with_reducible refine Kd.C_drew ?_))); (case s3 => repeat (first | exact (Kd.C_below HR0_1.out HB.out) | (with_reducible refine Kd.C_alloc ?_ _) | (with_reducible refine Kd.C_drewN ?_ _) | (with_reducible refine Kd.C_drew ?_))); rintro e w9 ⟨rfl, hb⟩; have nb_ := Aside0.mk (below_step (by repeat (first | (with_reducible first | exact HB.out | apply below_alloc | apply pw_below_drewN | apply below_drew1) | exact HB.out)) hb); have n0_ := Aside0.mk (blk_below (g := gv) (o := .cells #[.slice A0_0 l0_0.length c0_0, .slice A0_1 l0_1.length c0_1, .int .i64 a0_2, .int .i64 a0_3] 26 (0, 0)) (by (with_reducible repeat (first | refine blk_drewN ?_ _ | refine blk_drew ?_ | refine blk_alloc ?_ _)); exact BKv.out) hb); have n1_ := Aside0.mk (blk_below (g := gq1) (o := .cells #[.int .i64 a1] 3 (0, 0)) (by (with_reducible repeat (first | refine blk_drewN ?_ _ | refine blk_drew ?_ | refine blk_alloc ?_ _)); exact BKgq1.out) hb); have n2_ := Aside0.mk (blk_below (g := gq2) (o := .cells #[.int .i64 a2] 3 (0, 0)) (by (with_reducible repeat (first | refine blk_drewN ?_ _ | refine blk_drew ?_ | refine blk_alloc ?_ _)); exact BKgq2.out) hb); have n3_ := Aside0.mk (blk_below (g := gq3) (o := .cells #[.int .i64 a3] 3 (0, 0)) (by (with_reducible repeat (first | refine blk_drewN ?_ _ | refine blk_drew ?_ | refine blk_alloc ?_ _)); exact BKgq3.out) hb); have n4_ := Aside0.mk (blk_below (g := gq4) (o := .cells #[.int .i64 a4] 3 (0, 0)) (by (with_reducible repeat (first | refine blk_drewN ?_ _ | refine blk_drew ?_ | refine blk_alloc ?_ _)); exact BKgq4.out) hb); have n5_ := Aside0.mk (blk_below (g := gr) (o := .cells #[.slice none 0 0, .slice none 0 0, .int .i64 0, .int .i64 0] 26 (0, 0)) (by (with_reducible repeat (first | refine blk_drewN ?_ _ | refine blk_drew ?_ | refine blk_alloc ?_ _)); exact BKr.out) hb); clear HB BKv BKgq1 BKgq2 BKgq3 BKgq4 BKr; have HB := nb_; have BKv := n0_; have BKgq1 := n1_; have BKgq2 := n2_; have BKgq3 := n3_; have BKgq4 := n4_; have BKr := n5_; clear nb_ n0_ n1_ n2_ n3_ n4_ n5_ hb; have hcr0 : w9.cell? ⟨gr, 0, none⟩ = some (.slice none 0 0) := (blk_cell BKr.out 0).trans rfl; have hcr1 : w9.cell? ⟨gr, 1, none⟩ = some (.slice none 0 0) := (blk_cell BKr.out 1).trans rfl; have hcr2 : w9.cell? ⟨gr, 2, none⟩ = some (.int .i64 0) := (blk_cell BKr.out 2).trans rfl; have hcr3 : w9.cell? ⟨gr, 3, none⟩ = some (.int .i64 0) := (blk_cell BKr.out 3).trans rfl; have hcrf0 := blk_frozen BKr.out 0; have hcrf1 := blk_frozen BKr.out 1; have hcrf2 := blk_frozen BKr.out 2; have hcrf3 := blk_frozen BKr.out 3))
    refine bodyPost_ret (results_cell_row rfl _ _ gr 26 #[.slice none 0 0, .slice none 0 0, .int .i64 0, .int .i64 0] (0, 0) _ rfl (by (with_reducible repeat (first | refine blk_drewN ?_ _ | refine blk_drew ?_)); refine blk_put (cs := #[.slice none 0 0, .slice none 0 0, .int .i64 0, .int .i64 0]) ?_ 3 _ rfl; (with_reducible repeat (first | refine blk_drewN ?_ _ | refine blk_drew ?_)); refine blk_put (cs := #[.slice none 0 0, .slice none 0 0, .int .i64 0, .int .i64 0]) ?_ 2 _ rfl; (with_reducible repeat (first | refine blk_drewN ?_ _ | refine blk_drew ?_)); refine blk_put (cs := #[.slice none 0 0, .slice none 0 0, .int .i64 0, .int .i64 0]) ?_ 1 _ rfl; (with_reducible repeat (first | refine blk_drewN ?_ _ | refine blk_drew ?_)); refine blk_put (cs := #[.slice none 0 0, .slice none 0 0, .int .i64 0, .int .i64 0]) ?_ 0 _ rfl; (with_reducible repeat (first | refine blk_drewN ?_ _ | refine blk_drew ?_)); exact BKr.out) Try.underlying26 rfl (by kernel_rfl)) rfl ?_
    exact ⟨_, _, rfl, Kd.R_nil _ _ _ _ _, Kd.R_nil _ _ _ _ _, by repeat (first | (with_reducible first | exact HB.out | apply below_alloc | apply pw_below_drewN | apply below_drew1 | refine below_set ?_ GBKr.out) | exact HB.out)⟩
  | true =>
    rw [if_pos rfl] at h
    obtain ⟨x0, hl0, h⟩ := Option.bind_eq_some_iff.mp h
    obtain ⟨x1, hl1, h⟩ := Option.bind_eq_some_iff.mp h
    obtain ⟨⟨rb, m0, m1, m2, m3⟩, hf, h⟩ := Option.bind_eq_some_iff.mp h
    obtain rfl : l0_0 = x0 := by
      unfold slices_Clone_int_int.f at hl0
      split at hl0
      · exact Option.some.inj hl0
      · cases hl0
    obtain rfl : l0_1 = x1 := by
      unfold slices_Clone_int_int.f at hl1
      split at hl1
      · exact Option.some.inj hl1
      · cases hl1
    obtain ⟨t2, hv2, hres⟩ : ∃ t2 : Bool, (rb = true → impl_ViewOk.f k m0 m1 m2 m3 = some t2) ∧ (if rb = true then (if t2 = true then (m0, m1, m2, m3) else ([], [], 0, 0)) else ([], [], 0, 0)) = (r1, r2, r3, r4) := by
      cases rb with
      | false =>
        rw [if_neg (by simp)] at h
        exact ⟨false, (fun z => (by cases z)), by simpa using h⟩
      | true =>
        rw [if_pos rfl] at h
        obtain ⟨t2, hv2, h⟩ := Option.bind_eq_some_iff.mp h
        refine ⟨t2, fun _ => hv2, ?_⟩
        cases t2 <;> simpa using h
    have HL0 := Aside0.mk hl0
    have HL1 := Aside0.mk hl1
    have HF := Aside0.mk hf
    have HV2 := Aside0.mk hv2
    have HRES := Aside0.mk hres
    clear hl0 hl1 hf hv2 hres h
    have hmf : ∀ (fn : Fn) (first cap : Array Value) (w : World), (Instr.makeFunc fn first cap).run Try.prog w = .ok (.func fn first cap) w := fun _ _ _ _ => rfl
    go_enter Try.func12, Try.ntmps12
    go_wp2_with (first | ((with_reducible refine gate_dst (N := 5) rfl ?_); refine box_event ?hg (N := 5) ?hd (cs := #[.slice A0_0 l0_0.length c0_0, .slice A0_1 l0_1.length c0_1, .int .i64 a0_2, .int .i64 a0_3]) (t := 26) ?hr ?_; (case hd => rfl); (case hg => rfl); (case hr => first | (go_simp; done) | (go_simp; rfl)); intro gv hg_gv w_gv hbox hb; have ng_ := Aside0.mk (by rw [hg_gv]; exact (below_size (by repeat (first | (with_reducible first | exact HB.out | apply below_alloc | apply pw_below_drewN | apply below_drew1) | exact HB.out))) : w.heap.size ≤ gv); have nb_ := Aside0.mk (below_step (by repeat (first | (with_reducible first | exact HB.out | apply below_alloc | apply pw_below_drewN | apply below_drew1) | exact HB.out)) hb); clear HB ; have HB := nb_; clear nb_  hb; have BKv := Aside0.mk hbox; have GBKv := ng_; clear hbox ng_ hg_gv) | ((with_reducible refine gate_dst (N := 6) rfl ?_); refine box_event ?hg (N := 6) ?hd (cs := #[.int .i64 a1]) (t := 3) ?hr ?_; (case hd => rfl); (case hg => rfl); (case hr => first | (go_simp; done) | (go_simp; rfl)); intro gq1 hg_gq1 w_gq1 hbox hb; have ng_ := Aside0.mk (by rw [hg_gq1]; exact (below_size (by repeat (first | (with_reducible first | exact HB.out | apply below_alloc | apply pw_below_drewN | apply below_drew1) | exact HB.out))) : w.heap.size ≤ gq1); have nb_ := Aside0.mk (below_step (by repeat (first | (with_reducible first | exact HB.out | apply below_alloc | apply pw_below_drewN | apply below_drew1) | exact HB.out)) hb); have n0_ := Aside0.mk (blk_below (g := gv) (o := .cells #[.slice A0_0 l0_0.length c0_0, .slice A0_1 l0_1.length c0_1, .int .i64 a0_2, .int .i64 a0_3] 26 (0, 0)) (by (with_reducible repeat (first | refine blk_drewN ?_ _ | refine blk_drew ?_ | refine blk_alloc ?_ _)); exact BKv.out) hb); clear HB BKv; have HB := nb_; have BKv := n0_; clear nb_ n0_ hb; have BKgq1 := Aside0.mk hbox; have GBKgq1 := ng_; clear hbox ng_ hg_gq1) | ((with_reducible refine gate_dst (N := 7) rfl ?_); refine box_event ?hg (N := 7) ?hd (cs := #[.int .i64 a2]) (t := 3) ?hr ?_; (case hd => rfl); (case hg => rfl); (case hr => first | (go_simp; done) | (go_simp; rfl)); intro gq2 hg_gq2 w_gq2 hbox hb; have ng_ := Aside0.mk (by rw [hg_gq2]; exact (below_size (by repeat (first | (with_reducible first | exact HB.out | apply below_alloc | apply pw_below_drewN | apply below_drew1) | exact HB.out))) : w.heap.size ≤ gq2); have nb_ := Aside0.mk (below_step (by repeat (first | (with_reducible first | exact HB.out | apply below_alloc | apply pw_below_drewN | apply below_drew1) | exact HB.out)) hb); have n0_ := Aside0.mk (blk_below (g := gv) (o := .cells #[.slice A0_0 l0_0.length c0_0, .slice A0_1 l0_1.length c0_1, .int .i64 a0_2, .int .i64 a0_3] 26 (0, 0)) (by (with_reducible repeat (first | refine blk_drewN ?_ _ | refine blk_drew ?_ | refine blk_alloc ?_ _)); exact BKv.out) hb); have n1_ := Aside0.mk (blk_below (g := gq1) (o := .cells #[.int .i64 a1] 3 (0, 0)) (by (with_reducible repeat (first | refine blk_drewN ?_ _ | refine blk_drew ?_ | refine blk_alloc ?_ _)); exact BKgq1.out) hb); clear HB BKv BKgq1; have HB := nb_; have BKv := n0_; have BKgq1 := n1_; clear nb_ n0_ n1_ hb; have BKgq2 := Aside0.mk hbox; have GBKgq2 := ng_; clear hbox ng_ hg_gq2) | ((with_reducible refine gate_dst (N := 8) rfl ?_); refine box_event ?hg (N := 8) ?hd (cs := #[.int .i64 a3]) (t := 3) ?hr ?_; (case hd => rfl); (case hg => rfl); (case hr => first | (go_simp; done) | (go_simp; rfl)); intro gq3 hg_gq3 w_gq3 hbox hb; have ng_ := Aside0.mk (by rw [hg_gq3]; exact (below_size (by repeat (first | (with_reducible first | exact HB.out | apply below_alloc | apply pw_below_drewN | apply below_drew1) | exact HB.out))) : w.heap.size ≤ gq3); have nb_ := Aside0.mk (below_step (by repeat (first | (with_reducible first | exact HB.out | apply below_alloc | apply pw_below_drewN | apply below_drew1) | exact HB.out)) hb); have n0_ := Aside0.mk (blk_below (g := gv) (o := .cells #[.slice A0_0 l0_0.length c0_0, .slice A0_1 l0_1.length c0_1, .int .i64 a0_2, .int .i64 a0_3] 26 (0, 0)) (by (with_reducible repeat (first | refine blk_drewN ?_ _ | refine blk_drew ?_ | refine blk_alloc ?_ _)); exact BKv.out) hb); have n1_ := Aside0.mk (blk_below (g := gq1) (o := .cells #[.int .i64 a1] 3 (0, 0)) (by (with_reducible repeat (first | refine blk_drewN ?_ _ | refine blk_drew ?_ | refine blk_alloc ?_ _)); exact BKgq1.out) hb); have n2_ := Aside0.mk (blk_below (g := gq2) (o := .cells #[.int .i64 a2] 3 (0, 0)) (by (with_reducible repeat (first | refine blk_drewN ?_ _ | refine blk_drew ?_ | refine blk_alloc ?_ _)); exact BKgq2.out) hb); clear HB BKv BKgq1 BKgq2; have HB := nb_; have BKv := n0_; have BKgq1 := n1_; have BKgq2 := n2_; clear nb_ n0_ n1_ n2_ hb; have BKgq3 := Aside0.mk hbox; have GBKgq3 := ng_; clear hbox ng_ hg_gq3) | ((with_reducible refine gate_dst (N := 9) rfl ?_); refine box_event ?hg (N := 9) ?hd (cs := #[.int .i64 a4]) (t := 3) ?hr ?_; (case hd => rfl); (case hg => rfl); (case hr => first | (go_simp; done) | (go_simp; rfl)); intro gq4 hg_gq4 w_gq4 hbox hb; have L14 := Aside0.mk (show gq1 < gq4 by rw [hg_gq4]; exact blk_lt BKgq1.out); have L24 := Aside0.mk (show gq2 < gq4 by rw [hg_gq4]; exact blk_lt BKgq2.out); have L34 := Aside0.mk (show gq3 < gq4 by rw [hg_gq4]; exact blk_lt BKgq3.out); have ng_ := Aside0.mk (by rw [hg_gq4]; exact (below_size (by repeat (first | (with_reducible first | exact HB.out | apply below_alloc | apply pw_below_drewN | apply below_drew1) | exact HB.out))) : w.heap.size ≤ gq4); have nb_ := Aside0.mk (below_step (by repeat (first | (with_reducible first | exact HB.out | apply below_alloc | apply pw_below_drewN | apply below_drew1) | exact HB.out)) hb); have n0_ := Aside0.mk (blk_below (g := gv) (o := .cells #[.slice A0_0 l0_0.length c0_0, .slice A0_1 l0_1.length c0_1, .int .i64 a0_2, .int .i64 a0_3] 26 (0, 0)) (by (with_reducible repeat (first | refine blk_drewN ?_ _ | refine blk_drew ?_ | refine blk_alloc ?_ _)); exact BKv.out) hb); have n1_ := Aside0.mk (blk_below (g := gq1) (o := .cells #[.int .i64 a1] 3 (0, 0)) (by (with_reducible repeat (first | refine blk_drewN ?_ _ | refine blk_drew ?_ | refine blk_alloc ?_ _)); exact BKgq1.out) hb); have n2_ := Aside0.mk (blk_below (g := gq2) (o := .cells #[.int .i64 a2] 3 (0, 0)) (by (with_reducible repeat (first | refine blk_drewN ?_ _ | refine blk_drew ?_ | refine blk_alloc ?_ _)); exact BKgq2.out) hb); have n3_ := Aside0.mk (blk_below (g := gq3) (o := .cells #[.int .i64 a3] 3 (0, 0)) (by (with_reducible repeat (first | refine blk_drewN ?_ _ | refine blk_drew ?_ | refine blk_alloc ?_ _)); exact BKgq3.out) hb); clear HB BKv BKgq1 BKgq2 BKgq3; have HB := nb_; have BKv := n0_; have BKgq1 := n1_; have BKgq2 := n2_; have BKgq3 := n3_; clear nb_ n0_ n1_ n2_ n3_ hb; have BKgq4 := Aside0.mk hbox; have GBKgq4 := ng_; clear hbox ng_ hg_gq4) | ((with_reducible refine gate_dst (N := 10) rfl ?_); refine box_event ?hg (N := 10) ?hd (cs := #[.slice none 0 0, .slice none 0 0, .int .i64 0, .int .i64 0]) (t := 26) ?hr ?_; (case hd => rfl); (case hg => rfl); (case hr => first | (go_simp; done) | (go_simp; rfl)); intro gr hg_gr w_gr hbox hb; have ng_ := Aside0.mk (by rw [hg_gr]; exact (below_size (by repeat (first | (with_reducible first | exact HB.out | apply below_alloc | apply pw_below_drewN | apply below_drew1) | exact HB.out))) : w.heap.size ≤ gr); have nb_ := Aside0.mk (below_step (by repeat (first | (with_reducible first | exact HB.out | apply below_alloc | apply pw_below_drewN | apply below_drew1) | exact HB.out)) hb); have n0_ := Aside0.mk (blk_below (g := gv) (o := .cells #[.slice A0_0 l0_0.length c0_0, .slice A0_1 l0_1.length c0_1, .int .i64 a0_2, .int .i64 a0_3] 26 (0, 0)) (by (with_reducible repeat (first | refine blk_drewN ?_ _ | refine blk_drew ?_ | refine blk_alloc ?_ _)); exact BKv.out) hb); have n1_ := Aside0.mk (blk_below (g := gq1) (o := .cells #[.int .i64 a1] 3 (0, 0)) (by (with_reducible repeat (first | refine blk_drewN ?_ _ | refine blk_drew ?_ | refine blk_alloc ?_ _)); exact BKgq1.out) hb); have n2_ := Aside0.mk (blk_below (g := gq2) (o := .cells #[.int .i64 a2] 3 (0, 0)) (by (with_reducible repeat (first | refine blk_drewN ?_ _ | refine blk_drew ?_ | refine blk_alloc ?_ _)); exact BKgq2.out) hb); have n3_ := Aside0.mk (blk_below (g := gq3) (o := .cells #[.int .i64 a3] 3 (0, 0)) (by (with_reducible repeat (first | refine blk_drewN ?_ _ | refine blk_drew ?_ | refine blk_alloc ?_ _)); exact BKgq3.out) hb); have n4_ := Aside0.mk (blk_below (g := gq4) (o := .cells #[.int .i64 a4] 3 (0, 0)) (by (with_reducible repeat (first | refine blk_drewN ?_ _ | refine blk_drew ?_ | refine blk_alloc ?_ _)); exact BKgq4.out) hb); clear HB BKv BKgq1 BKgq2 BKgq3 BKgq4; have HB := nb_; have BKv := n0_; have BKgq1 := n1_; have BKgq2 := n2_; have BKgq3 := n3_; have BKgq4 := n4_; clear nb_ n0_ n1_ n2_ n3_ n4_ hb; have BKr := Aside0.mk hbox; have GBKr := ng_; clear hbox ng_ hg_gr; have hcv0 : w_gr.cell? ⟨gv, 0, none⟩ = some (.slice A0_0 l0_0.length c0_0) := (blk_cell BKv.out 0).trans rfl; have hcv1 : w_gr.cell? ⟨gv, 1, none⟩ = some (.slice A0_1 l0_1.length c0_1) := (blk_cell BKv.out 1).trans rfl; have hcv2 : w_gr.cell? ⟨gv, 2, none⟩ = some (.int .i64 a0_2) := (blk_cell BKv.out 2).trans rfl; have hcv3 : w_gr.cell? ⟨gv, 3, none⟩ = some (.int .i64 a0_3) := (blk_cell BKv.out 3).trans rfl; have QN := Aside0.mk (show gq1 < gq4 ∧ gq2 < gq4 ∧ gq3 < gq4 from ⟨L14.out, L24.out, L34.out⟩)) | (go_at_call 39; refine (impl_turn.go k w.heap.size gq1 gq3 gq2 gq4 _ _ l0_0 _ _ l0_1 a0_2 a0_3 rb t2 m0 m1 m2 m3 r1 r2 r3 r4 _ (below_size HB.out) ?s1 HC0_0.out ?s3 HC0_1.out HV.out HL0.out HL1.out ?sby HV2.out HRES.out).mono ?_; (case s1 => repeat (first | exact (Kd.C_below HR0_0.out HB.out) | (with_reducible refine Kd.C_alloc ?_ _) | (with_reducible refine Kd.C_drewN ?_ _) | (with_reducible refine Kd.C_drew ?_))); (case s3 => repeat (first | exact (Kd.C_below HR0_1.out HB.out) | (with_reducible refine Kd.C_alloc ?_ _) | (with_reducible refine Kd.C_drewN ?_ _) | (with_reducible refine Kd.C_drew ?_))); (case sby => exact (by intro W gw B0 B1 d0 d1 hbW hgw hp h0 h1; exact impl_Slice.closure _ W w.heap.size gq1 gq3 gq2 gq4 a1 a3 a2 a4 gw B0 B1 d0 d1 l0_0 l0_1 a0_2 a0_3 rb m0 m1 m2 m3 (by (with_reducible repeat (first | refine blk_drewN ?_ _ | refine blk_drew ?_ | refine blk_alloc ?_ _)); exact BKgq1.out) (by (with_reducible repeat (first | refine blk_drewN ?_ _ | refine blk_drew ?_ | refine blk_alloc ?_ _)); exact BKgq3.out) (by (with_reducible repeat (first | refine blk_drewN ?_ _ | refine blk_drew ?_ | refine blk_alloc ?_ _)); exact BKgq2.out) (by (with_reducible repeat (first | refine blk_drewN ?_ _ | refine blk_drew ?_ | refine blk_alloc ?_ _)); exact BKgq4.out) (Nat.ne_of_lt QN.out.1) (Nat.ne_of_lt QN.out.2.2) (Nat.ne_of_lt QN.out.2.1) GBKgq4.out (below_size HB.out) _ (Below.refl _ _) hbW hgw hp h0 h1 HF.out)); rintro e w9 ⟨v0, v1, rfl, ho0, ho1, hbb, h26⟩; have BKr9 := Aside0.mk (h26 _ _ (by (with_reducible repeat (first | refine blk_drewN ?_ _ | refine blk_drew ?_ | refine blk_alloc ?_ _)); exact BKr.out)); have HB9 := Aside0.mk (HB.out.trans hbb); have HO0 := Aside0.mk (Kd.R_lower ho0 (below_size HB.out)); have HO1 := Aside0.mk (Kd.R_lower ho1 (below_size HB.out)); obtain ⟨E0, f0, rfl⟩ := Kd.R_slice ho0; obtain ⟨E1, f1, rfl⟩ := Kd.R_slice ho1; clear ho0 ho1 hbb h26 HB BKr; have hcr0 : w9.cell? ⟨gr, 0, none⟩ = some (.slice none 0 0) := (blk_cell BKr9.out 0).trans rfl; have hcr1 : w9.cell? ⟨gr, 1, none⟩ = some (.slice none 0 0) := (blk_cell BKr9.out 1).trans rfl; have hcr2 : w9.cell? ⟨gr, 2, none⟩ = some (.int .i64 0) := (blk_cell BKr9.out 2).trans rfl; have hcr3 : w9.cell? ⟨gr, 3, none⟩ = some (.int .i64 0) := (blk_cell BKr9.out 3).trans rfl; have hcrf0 := blk_frozen BKr9.out 0; have hcrf1 := blk_frozen BKr9.out 1; have hcrf2 := blk_frozen BKr9.out 2; have hcrf3 := blk_frozen BKr9.out 3))
    refine bodyPost_ret (results_cell_row rfl _ _ gr 26 #[.slice E0 r1.length f0, .slice E1 r2.length f1, .int .i64 r3, .int .i64 r4] (0, 0) _ rfl (by (with_reducible repeat (first | refine blk_drewN ?_ _ | refine blk_drew ?_)); refine blk_put (cs := #[.slice E0 r1.length f0, .slice E1 r2.length f1, .int .i64 r3, .int .i64 0]) ?_ 3 _ rfl; (with_reducible repeat (first | refine blk_drewN ?_ _ | refine blk_drew ?_)); refine blk_put (cs := #[.slice E0 r1.length f0, .slice E1 r2.length f1, .int .i64 0, .int .i64 0]) ?_ 2 _ rfl; (with_reducible repeat (first | refine blk_drewN ?_ _ | refine blk_drew ?_)); refine blk_put (cs := #[.slice E0 r1.length f0, .slice none 0 0, .int .i64 0, .int .i64 0]) ?_ 1 _ rfl; (with_reducible repeat (first | refine blk_drewN ?_ _ | refine blk_drew ?_)); refine blk_put (cs := #[.slice none 0 0, .slice none 0 0, .int .i64 0, .int .i64 0]) ?_ 0 _ rfl; (with_reducible repeat (first | refine blk_drewN ?_ _ | refine blk_drew ?_)); exact BKr9.out) Try.underlying26 rfl (by kernel_rfl)) rfl ?_
    exact ⟨_, _, rfl, by (with_reducible repeat (first | apply Kd.R_drewN | apply Kd.R_drew)); exact Kd.R_mono (Kd.R_far (p := ⟨gr, 3, none⟩) (Kd.R_far (p := ⟨gr, 2, none⟩) (Kd.R_far (p := ⟨gr, 1, none⟩) (Kd.R_far (p := ⟨gr, 0, none⟩) (Kd.R_types HO0.out BKr9.out (by decide)) (fun _ hk => hk.2) _) (fun _ hk => hk.2) _) (fun _ hk => hk.2) _) (fun _ hk => hk.2) _) (fun _ hk => hk.1), by (with_reducible repeat (first | apply Kd.R_drewN | apply Kd.R_drew)); exact Kd.R_mono (Kd.R_far (p := ⟨gr, 3, none⟩) (Kd.R_far (p := ⟨gr, 2, none⟩) (Kd.R_far (p := ⟨gr, 1, none⟩) (Kd.R_far (p := ⟨gr, 0, none⟩) (Kd.R_types HO1.out BKr9.out (by decide)) (fun _ hk => hk.2) _) (fun _ hk => hk.2) _) (fun _ hk => hk.2) _) (fun _ hk => hk.2) _) (fun _ hk => hk.1), by repeat (first | (with_reducible first | exact HB9.out | apply pw_below_drewN | apply below_drew1 | refine below_set ?_ GBKr.out) | exact HB9.out)⟩

set_option maxHeartbeats 8000000 in
set_option maxRecDepth 100000 in
theorem impl_Slice.calls (k : Nat) (A0_0 : Option Addr) (c0_0 : Nat) (l0_0 : List Int) (A0_1 : Option Addr) (c0_1 : Nat) (l0_1 : List Int) (a0_2 : Int) (a0_3 : Int) (a1 : Int) (a2 : Int) (a3 : Int) (a4 : Int) (r1 : List Int) (r2 : List Int) (r3 : Int) (r4 : Int) (w : World) (hr0_0 : Kd.C (Kd.int .i64) w A0_0 l0_0.length l0_0) (hc0_0 : l0_0.length ≤ c0_0) (hr0_1 : Kd.C (Kd.int .i64) w A0_1 l0_1.length l0_1) (hc0_1 : l0_1.length ≤ c0_1) (h : impl_Slice.f k l0_0 l0_1 a0_2 a0_3 a1 a2 a3 a4 = some (r1, r2, r3, r4)) :
    Calls Try.prog 12 #[.agg #[.slice A0_0 l0_0.length c0_0, .slice A0_1 l0_1.length c0_1, .int .i64 a0_2, .int .i64 a0_3], .int .i64 a1, .int .i64 a2, .int .i64 a3, .int .i64 a4] w fun e w' => ∃ v0_ v1_ : Value, e = .returned (.agg #[v0_, v1_, .int .i64 r3, .int .i64 r4]) ∧ Kd.R (Kd.int .i64) 3 w' w.heap.size (fun k_ => some k_ ≠ (v1_ : Value).ownBlock) v0_ r1 ∧ Kd.R (Kd.int .i64) 3 w' w.heap.size (fun k_ => some k_ ≠ (v0_ : Value).ownBlock) v1_ r2 ∧ Below w.heap.size w w' := by
  exact impl_Slice.own k _ _ l0_0 _ _ l0_1 a0_2 a0_3 a1 a2 a3 a4 r1 r2 r3 r4 w hr0_0 hc0_0 hr0_1 hc0_1 h

/-! ### laws_eqIntS: function 43 -/
def laws_eqIntS.l0 : Nat → List Int → List Int → Int → Option (Bool)
  | 0, _, _, _ => none
  | k + 1, x0, x1, x5 => if x5 < (x0.length : Int) then (if 0 ≤ x5 then (if x5 < (x1.length : Int) then (if (rd x0 x5) = (rd x1 x5) then (laws_eqIntS.l0 k x0 x1 (wrap64 (x5 + 1))) else (some false)) else (none)) else (none)) else (some true)
def laws_eqIntS.f (k : Nat) (l0 : List Int) (l1 : List Int) : Option (Bool) := if (l0.length : Int) = (l1.length : Int) then (laws_eqIntS.l0 k l0 l1 0) else (some false)
theorem laws_eqIntS.mono_l : ∀ k, (∀ y0 y1 y2, LeO (laws_eqIntS.l0 k y0 y1 y2) (laws_eqIntS.l0 (k + 1) y0 y1 y2))
  | 0 => fun _ _ _ r h => by simp [laws_eqIntS.l0] at h
  | k + 1 => by
    have ih0 := laws_eqIntS.mono_l k
    · intro y0 y1 y2
      unfold laws_eqIntS.l0
      repeat' first
      | (with_reducible exact ih0 _ _ _)
      | (with_reducible exact LeO.refl _)
      | (with_reducible exact LeO.none _)
      | (with_reducible refine LeO.ite ?_ ?_)
      | (with_reducible refine LeO.bind ?_ (fun _ => ?_))
      | exact ih0 _ _ _
      | exact LeO.none _
      | refine LeO.ite ?_ ?_
      | refine LeO.bind ?_ (fun _ => ?_)
theorem laws_eqIntS.mono : ∀ a0 a1 k, LeO (laws_eqIntS.f k a0 a1) (laws_eqIntS.f (k + 1) a0 a1) := by
  intro a0 a1 k
  have ih0 := laws_eqIntS.mono_l k
  unfold laws_eqIntS.f
  repeat' first
      | (with_reducible exact ih0 _ _ _)
      | (with_reducible exact LeO.refl _)
      | (with_reducible exact LeO.none _)
      | (with_reducible refine LeO.ite ?_ ?_)
      | (with_reducible refine LeO.bind ?_ (fun _ => ?_))
      | exact ih0 _ _ _
      | exact LeO.none _
      | refine LeO.ite ?_ ?_
      | refine LeO.bind ?_ (fun _ => ?_)
set_option maxHeartbeats 8000000 in
set_option maxRecDepth 100000 in
theorem laws_eqIntS.calls (k : Nat) (A0 : Option Addr) (c0 : Nat) (l0 : List Int) (A1 : Option Addr) (c1 : Nat) (l1 : List Int) (r : Bool) (w : World) (hr0 : Kd.C (Kd.int .i64) w A0 l0.length l0) (hc0 : l0.length ≤ c0) (hr1 : Kd.C (Kd.int .i64) w A1 l1.length l1) (hc1 : l1.length ≤ c1) (h : laws_eqIntS.f k l0 l1 = some r) :
    Calls Try.prog 43 #[.slice A0 l0.length c0, .slice A1 l1.length c1] w fun e w' => e = .returned (.bool r) ∧ Drawn0 w w' := by
  have HR0 := Aside0.mk hr0
  have HC0 := Aside0.mk hc0
  clear hr0 hc0
  have HR1 := Aside0.mk hr1
  have HC1 := Aside0.mk hc1
  clear hr1 hc1
  have H : (if (l0.length : Int) = (l1.length : Int) then (laws_eqIntS.l0 k l0 l1 0) else (some false)) = some r := h
  clear h
  by_cases c3 : (l0.length : Int) = (l1.length : Int)
  · rw [if_pos c3] at H
    have c3b0 : ((l0.length : Int) == (l1.length : Int)) = true := beq_iff_eq.mpr c3
    have c3b1 : ((l0.length : Int) != (l1.length : Int)) = false := bne_eq_false_iff_eq.mpr c3
    have c3b2 : (l0.length == l1.length) = true := by first | simpa using c3 | (simp at c3 ⊢; omega)
    clear c3
    have H' := Aside0.mk H
    clear H
    go_enter Try.func43, Try.ntmps43
    go_wp2
    repeat (go_quiet (fail); try go_wp2)
    go_loopg [5] k (fun kq v5 w' => ∃ (x5_1 : Int), v5 = .int .i64 x5_1 ∧ Aside0 (laws_eqIntS.l0 kq l0 l1 x5_1 = some r) ∧ Aside0 (kq ≤ k) ∧ Drawn0 w w')
    case atStart => exact ⟨(0), (by first | rfl | (simp; done) | (simp [*]; done)), H', ⟨Nat.le_refl _⟩, by repeat (first | exact Drawn0.refl _ | apply Drawn0.step)⟩
    case round =>
      clear H'
      try clear c1
      try clear p2
      try clear c3
      try clear c3b0
      try clear c3b1
      try clear c3b2
      obtain ⟨x5_1, rfl, HA, HK1, ⟨m1, rfl⟩⟩ := hrel
      cases gk with
      | zero => exact absurd HA.out (by simp [laws_eqIntS.l0])
      | succ k1 =>
        have H := HA.out
        clear HA
        simp only [laws_eqIntS.l0] at H
        by_cases c4 : x5_1 < (l0.length : Int)
        · rw [if_pos c4] at H
          have c4b0 : decide (x5_1 < (l0.length : Int)) = true := decide_eq_true c4
          clear c4
          by_cases c5 : 0 ≤ x5_1
          · rw [if_pos c5] at H
            have c5b0 : decide (0 ≤ x5_1) = true := decide_eq_true c5
            clear c5
            by_cases c6 : x5_1 < (l1.length : Int)
            · rw [if_pos c6] at H
              have c6b0 : decide (x5_1 < (l1.length : Int)) = true := decide_eq_true c6
              clear c6
              by_cases c7 : (rd l0 x5_1) = (rd l1 x5_1)
              · rw [if_pos c7] at H
                have c7b0 : ((rd l0 x5_1) == (rd l1 x5_1)) = true := beq_iff_eq.mpr c7
                have c7b1 : ((rd l0 x5_1) != (rd l1 x5_1)) = false := bne_eq_false_iff_eq.mpr c7
                clear c7
                have H' := Aside0.mk H
                clear H
                have p213 : 0 ≤ (x5_1 : Int) := of_decide_eq_true (by first | (with_reducible assumption) | assumption)
                have q213 : x5_1 < (l0.length : Int) := of_decide_eq_true (by first | (with_reducible assumption) | assumption)
                obtain ⟨ad213, e213, hx213_0⟩ := Kd.at_int HR0.out x5_1 p213 q213
                cases e213
                replace p213 := eq_true p213
                replace q213 := eq_true q213
                have p214 : 0 ≤ (x5_1 : Int) := of_decide_eq_true (by first | (with_reducible assumption) | assumption)
                have q214 : x5_1 < (l1.length : Int) := of_decide_eq_true (by first | (with_reducible assumption) | assumption)
                obtain ⟨ad214, e214, hx214_0⟩ := Kd.at_int HR1.out x5_1 p214 q214
                cases e214
                replace p214 := eq_true p214
                replace q214 := eq_true q214
                go_wp2
                repeat (go_quiet (fail); try go_wp2)
                go_roundg k1
                case measure => have := HK1.out; omega
                case rel => exact ⟨(wrap64 (x5_1 + 1)), (by first | rfl | (simp; done) | (simp [*]; done)), H', ⟨by have := HK1.out; omega⟩, by repeat (first | exact Drawn0.refl _ | apply Drawn0.step)⟩
              · rw [if_neg c7] at H
                have c7b0 : ((rd l0 x5_1) == (rd l1 x5_1)) = false := beq_eq_false_iff_ne.mpr c7
                have c7b1 : ((rd l0 x5_1) != (rd l1 x5_1)) = true := bne_iff_ne.mpr c7
                obtain rfl := Option.some.inj H
                have p213 : 0 ≤ (x5_1 : Int) := of_decide_eq_true (by first | (with_reducible assumption) | assumption)
                have q213 : x5_1 < (l0.length : Int) := of_decide_eq_true (by first | (with_reducible assumption) | assumption)
                obtain ⟨ad213, e213, hx213_0⟩ := Kd.at_int HR0.out x5_1 p213 q213
                cases e213
                replace p213 := eq_true p213
                replace q213 := eq_true q213
                have p214 : 0 ≤ (x5_1 : Int) := of_decide_eq_true (by first | (with_reducible assumption) | assumption)
                have q214 : x5_1 < (l1.length : Int) := of_decide_eq_true (by first | (with_reducible assumption) | assumption)
                obtain ⟨ad214, e214, hx214_0⟩ := Kd.at_int HR1.out x5_1 p214 q214
                cases e214
                replace p214 := eq_true p214
                replace q214 := eq_true q214
                go_wp2
                repeat (go_quiet (fail); try go_wp2)
                go_ret
                exact ⟨by first | rfl | (simp; done) | (simp [*]; done), by repeat (first | exact Drawn0.refl _ | apply Drawn0.step)⟩
            · rw [if_neg c6] at H
              exact absurd H (by simp)
          · rw [if_neg c5] at H
            exact absurd H (by simp)
        · rw [if_neg c4] at H
          have c4b0 : decide (x5_1 < (l0.length : Int)) = false := decide_eq_false c4
          clear c4
          obtain rfl := Option.some.inj H
          go_wp2
          repeat (go_quiet (fail); try go_wp2)
          go_ret
          exact ⟨by first | rfl | (simp; done) | (simp [*]; done), by repeat (first | exact Drawn0.refl _ | apply Drawn0.step)⟩
  · rw [if_neg c3] at H
    have c3b0 : ((l0.length : Int) == (l1.length : Int)) = false := beq_eq_false_iff_ne.mpr c3
    have c3b1 : ((l0.length : Int) != (l1.length : Int)) = true := bne_iff_ne.mpr c3
    have c3b2 : (l0.length == l1.length) = false := by first | simpa using c3 | (simp at c3 ⊢; omega)
    obtain rfl := Option.some.inj H
    go_enter Try.func43, Try.ntmps43
    go_wp2
    repeat (go_quiet (fail); try go_wp2)
    go_ret
    exact ⟨by first | rfl | (simp; done) | (simp [*]; done), by repeat (first | exact Drawn0.refl _ | apply Drawn0.step)⟩

/-! ### laws_eqView: function 13 -/
def laws_eqView.f (k : Nat) (l0_0 : List Int) (l0_1 : List Int) (a0_2 : Int) (a0_3 : Int) (l1_0 : List Int) (l1_1 : List Int) (a1_2 : Int) (a1_3 : Int) : Option (Bool) := (laws_eqIntS.f k l0_0 l1_0).bind fun t217 => (if t217 = true then ((laws_eqIntS.f k l0_1 l1_1).bind fun t218 => (if t218 = true then (if a0_2 = a1_2 then (if a0_3 = a1_3 then (some true) else (some false)) else (some false)) else (some false))) else (some false))
theorem laws_eqView.mono : ∀ a0 a1 a2 a3 a4 a5 a6 a7 k, LeO (laws_eqView.f k a0 a1 a2 a3 a4 a5 a6 a7) (laws_eqView.f (k + 1) a0 a1 a2 a3 a4 a5 a6 a7) := by
  intro a0 a1 a2 a3 a4 a5 a6 a7 k
  unfold laws_eqView.f
  repeat' first
      | (with_reducible exact laws_eqIntS.mono _ _ _)
      | (with_reducible exact LeO.refl _)
      | (with_reducible exact LeO.none _)
      | (with_reducible refine LeO.ite ?_ ?_)
      | (with_reducible refine LeO.bind ?_ (fun _ => ?_))
      | exact laws_eqIntS.mono _ _ _
      | exact LeO.none _
      | refine LeO.ite ?_ ?_
      | refine LeO.bind ?_ (fun _ => ?_)
set_option maxHeartbeats 8000000 in
set_option maxRecDepth 100000 in
theorem laws_eqView.calls (k : Nat) (A0_0 : Option Addr) (c0_0 : Nat) (l0_0 : List Int) (A0_1 : Option Addr) (c0_1 : Nat) (l0_1 : List Int) (a0_2 : Int) (a0_3 : Int) (A1_0 : Option Addr) (c1_0 : Nat) (l1_0 : List Int) (A1_1 : Option Addr) (c1_1 : Nat) (l1_1 : List Int) (a1_2 : Int) (a1_3 : Int) (r : Bool) (w : World) (hr0_0 : Kd.C (Kd.int .i64) w A0_0 l0_0.length l0_0) (hc0_0 : l0_0.length ≤ c0_0) (hr0_1 : Kd.C (Kd.int .i64) w A0_1 l0_1.length l0_1) (hc0_1 : l0_1.length ≤ c0_1) (hr1_0 : Kd.C (Kd.int .i64) w A1_0 l1_0.length l1_0) (hc1_0 : l1_0.length ≤ c1_0) (hr1_1 : Kd.C (Kd.int .i64) w A1_1 l1_1.length l1_1) (hc1_1 : l1_1.length ≤ c1_1) (h : laws_eqView.f k l0_0 l0_1 a0_2 a0_3 l1_0 l1_1 a1_2 a1_3 = some r) :
    Calls Try.prog 13 #[.agg #[.slice A0_0 l0_0.length c0_0, .slice A0_1 l0_1.length c0_1, .int .i64 a0_2, .int .i64 a0_3], .agg #[.slice A1_0 l1_0.length c1_0, .slice A1_1 l1_1.length c1_1, .int .i64 a1_2, .int .i64 a1_3]] w fun e w' => e = .returned (.bool r) ∧ Below w.heap.size w w' := by
  have hu26 := Try.underlying26
  have HR0_0 := Aside0.mk hr0_0
  have HC0_0 := Aside0.mk hc0_0
  clear hr0_0 hc0_0
  have HR0_1 := Aside0.mk hr0_1
  have HC0_1 := Aside0.mk hc0_1
  clear hr0_1 hc0_1
  have HR1_0 := Aside0.mk hr1_0
  have HC1_0 := Aside0.mk hc1_0
  clear hr1_0 hc1_0
  have HR1_1 := Aside0.mk hr1_1
  have HC1_1 := Aside0.mk hc1_1
  clear hr1_1 hc1_1
  have HB := Aside0.mk (Below.refl w.heap.size w)
  have H : ((laws_eqIntS.f k l0_0 l1_0).bind fun t217 => (if t217 = true then ((laws_eqIntS.f k l0_1 l1_1).bind fun t218 => (if t218 = true then (if a0_2 = a1_2 then (if a0_3 = a1_3 then (some true) else (some false)) else (some false)) else (some false))) else (some false))) = some r := h
  clear h
  replace H := Option.bind_eq_some_iff.mp H
  obtain ⟨t217, A30, H⟩ := H
  replace H : (if t217 = true then ((laws_eqIntS.f k l0_1 l1_1).bind fun t218 => (if t218 = true then (if a0_2 = a1_2 then (if a0_3 = a1_3 then (some true) else (some false)) else (some false)) else (some false))) else (some false)) = some r := H
  have A3 := Aside0.mk A30
  clear A30
  by_cases c4 : t217 = true
  · subst c4
    have H1 : ((laws_eqIntS.f k l0_1 l1_1).bind fun t218 => (if t218 = true then (if a0_2 = a1_2 then (if a0_3 = a1_3 then (some true) else (some false)) else (some false)) else (some false))) = some r := by rw [if_pos rfl] at H; exact H
    clear H
    have H := H1
    clear H1
    replace H := Option.bind_eq_some_iff.mp H
    obtain ⟨t218, A50, H⟩ := H
    replace H : (if t218 = true then (if a0_2 = a1_2 then (if a0_3 = a1_3 then (some true) else (some false)) else (some false)) else (some false)) = some r := H
    have A5 := Aside0.mk A50
    clear A50
    by_cases c6 : t218 = true
    · subst c6
      have H1 : (if a0_2 = a1_2 then (if a0_3 = a1_3 then (some true) else (some false)) else (some false)) = some r := by rw [if_pos rfl] at H; exact H
      clear H
      have H := H1
      clear H1
      by_cases c7 : a0_2 = a1_2
      · rw [if_pos c7] at H
        have c7b0 : (a0_2 == a1_2) = true := beq_iff_eq.mpr c7
        have c7b1 : (a0_2 != a1_2) = false := bne_eq_false_iff_eq.mpr c7
        clear c7
        by_cases c8 : a0_3 = a1_3
        · rw [if_pos c8] at H
          have c8b0 : (a0_3 == a1_3) = true := beq_iff_eq.mpr c8
          have c8b1 : (a0_3 != a1_3) = false := bne_eq_false_iff_eq.mpr c8
          clear c8
          obtain rfl := Option.some.inj H
          go_enter Try.func13, Try.ntmps13
          go_wp2_with (first | ((with_reducible refine gate_dst (N := 2) rfl ?_); refine box_event ?hg (N := 2) ?hd (cs := #[.slice A0_0 l0_0.length c0_0, .slice A0_1 l0_1.length c0_1, .int .i64 a0_2, .int .i64 a0_3]) (t := 26) ?hr ?_; (case hd => rfl); (case hg => rfl); (case hr => first | (go_simp; done) | (go_simp; rfl)); intro gb215 hg w9 hbox hb; have n0_ := Aside0.mk (below_step (by repeat (first | (with_reducible first | exact HB.out | apply below_alloc | apply pw_below_drewN | apply below_drew1) | exact HB.out)) hb); have n1_ := Aside0.mk (hbox); have n2_ := Aside0.mk ((by rw [hg]; exact (below_size (by repeat (first | (with_reducible first | exact HB.out | apply below_alloc | apply pw_below_drewN | apply below_drew1) | exact HB.out))) : w.heap.size ≤ gb215)); have n3_ := Aside0.mk ((by rw [hg]; exact (below_size (by repeat (first | (with_reducible first | exact HB.out | apply below_alloc | apply pw_below_drewN | apply below_drew1) | exact HB.out))) : w.heap.size ≤ gb215)); clear HB; have HB := n0_; have BK215 := n1_; have GW215 := n2_; have GE215 := n3_; clear n0_ n1_ n2_ n3_; clear hb hbox hg) | ((with_reducible refine gate_dst (N := 3) rfl ?_); refine box_event ?hg (N := 3) ?hd (cs := #[.slice A1_0 l1_0.length c1_0, .slice A1_1 l1_1.length c1_1, .int .i64 a1_2, .int .i64 a1_3]) (t := 26) ?hr ?_; (case hd => rfl); (case hg => rfl); (case hr => first | (go_simp; done) | (go_simp; rfl)); intro gb216 hg w10 hbox hb; have n0_ := Aside0.mk (blk_below (g := gb215) (o := .cells #[.slice A0_0 l0_0.length c0_0, .slice A0_1 l0_1.length c0_1, .int .i64 a0_2, .int .i64 a0_3] 26 (0, 0)) (by (with_reducible repeat (first | refine blk_drewN ?_ _ | refine blk_drew ?_ | refine blk_alloc ?_ _)); exact BK215.out) hb); have n1_ := Aside0.mk (below_step (by repeat (first | (with_reducible first | exact HB.out | apply below_alloc | apply pw_below_drewN | apply below_drew1 | refine below_set ?_ GE215.out) | exact HB.out)) hb); have n2_ := Aside0.mk (hbox); have n3_ := Aside0.mk ((by rw [hg]; exact (below_size (by repeat (first | (with_reducible first | exact HB.out | apply below_alloc | apply pw_below_drewN | apply below_drew1 | refine below_set ?_ GE215.out) | exact HB.out))) : w.heap.size ≤ gb216)); have n4_ := Aside0.mk ((by rw [hg]; exact (below_size (by repeat (first | (with_reducible first | exact HB.out | apply below_alloc | apply pw_below_drewN | apply below_drew1 | refine below_set ?_ GE215.out) | exact HB.out))) : w.heap.size ≤ gb216)); have n5_ := Aside0.mk ((by rw [hg]; exact Nat.ne_of_lt (blk_lt (g := gb215) (o := .cells #[.slice A0_0 l0_0.length c0_0, .slice A0_1 l0_1.length c0_1, .int .i64 a0_2, .int .i64 a0_3] 26 (0, 0)) (by (with_reducible repeat (first | refine blk_drewN ?_ _ | refine blk_drew ?_ | refine blk_alloc ?_ _)); exact BK215.out)) : gb215 ≠ gb216)); have n6_ := Aside0.mk ((by rw [hg]; exact Nat.ne_of_gt (blk_lt (g := gb215) (o := .cells #[.slice A0_0 l0_0.length c0_0, .slice A0_1 l0_1.length c0_1, .int .i64 a0_2, .int .i64 a0_3] 26 (0, 0)) (by (with_reducible repeat (first | refine blk_drewN ?_ _ | refine blk_drew ?_ | refine blk_alloc ?_ _)); exact BK215.out)) : gb216 ≠ gb215)); clear BK215; clear HB; have BK215 := n0_; have HB := n1_; have BK216 := n2_; have GW216 := n3_; have GE216 := n4_; have NB215_216 := n5_; have NB216_215 := n6_; clear n0_ n1_ n2_ n3_ n4_ n5_ n6_; clear hb hbox hg; have hnb11 := NB215_216.out; have hnc11 := NB216_215.out; have hcz12_0 : w10.cell? ⟨gb215, 0, none⟩ = some (.slice A0_0 l0_0.length c0_0) := (blk_cell BK215.out 0).trans rfl; have hcz12_1 : w10.cell? ⟨gb215, 1, none⟩ = some (.slice A0_1 l0_1.length c0_1) := (blk_cell BK215.out 1).trans rfl; have hcz12_2 : w10.cell? ⟨gb215, 2, none⟩ = some (.int .i64 a0_2) := (blk_cell BK215.out 2).trans rfl; have hcz12_3 : w10.cell? ⟨gb215, 3, none⟩ = some (.int .i64 a0_3) := (blk_cell BK215.out 3).trans rfl; have hfz12_0 := blk_frozen BK215.out 0; have hfz12_1 := blk_frozen BK215.out 1; have hfz12_2 := blk_frozen BK215.out 2; have hfz12_3 := blk_frozen BK215.out 3; have hcz13_0 : w10.cell? ⟨gb216, 0, none⟩ = some (.slice A1_0 l1_0.length c1_0) := (blk_cell BK216.out 0).trans rfl; have hcz13_1 : w10.cell? ⟨gb216, 1, none⟩ = some (.slice A1_1 l1_1.length c1_1) := (blk_cell BK216.out 1).trans rfl; have hcz13_2 : w10.cell? ⟨gb216, 2, none⟩ = some (.int .i64 a1_2) := (blk_cell BK216.out 2).trans rfl; have hcz13_3 : w10.cell? ⟨gb216, 3, none⟩ = some (.int .i64 a1_3) := (blk_cell BK216.out 3).trans rfl; have hfz13_0 := blk_frozen BK216.out 0; have hfz13_1 := blk_frozen BK216.out 1; have hfz13_2 := blk_frozen BK216.out 2; have hfz13_3 := blk_frozen BK216.out 3) | ((with_reducible refine gate_callee (f := 43) rfl ?_); refine goesL_ (some 9) rfl rfl Try.func43 (by kernel_rfl) rfl #[.slice A0_0 l0_0.length c0_0, .slice A1_0 l1_0.length c1_0] rfl (by (try simp only [List.map_toArray, List.map_cons, List.map_nil]); first | done | rfl | (simp only [List.length_drop, List.length_take]; rfl)) ?_; (with_reducible refine (laws_eqIntS.calls k _ _ l0_0 _ _ l1_0 true _ ?side1 ?side2 ?side3 ?side4 A3.out).mono ?_); (case side1 => repeat (first | exact (Kd.C_below HR0_0.out HB.out) | (with_reducible refine Kd.C_alloc ?_ _) | (with_reducible refine Kd.C_drewN ?_ _) | (with_reducible refine Kd.C_drew ?_))); (case side2 => exact HC0_0.out); (case side3 => repeat (first | exact (Kd.C_below HR1_0.out HB.out) | (with_reducible refine Kd.C_alloc ?_ _) | (with_reducible refine Kd.C_drewN ?_ _) | (with_reducible refine Kd.C_drew ?_))); (case side4 => exact HC1_0.out); rintro e w' ⟨rfl, ⟨nd, rfl⟩⟩; refine ⟨_, rfl, ?_⟩) | ((with_reducible refine gate_callee (f := 43) rfl ?_); refine goesL_ (some 15) rfl rfl Try.func43 (by kernel_rfl) rfl #[.slice A0_1 l0_1.length c0_1, .slice A1_1 l1_1.length c1_1] rfl (by (try simp only [List.map_toArray, List.map_cons, List.map_nil]); first | done | rfl | (simp only [List.length_drop, List.length_take]; rfl)) ?_; (with_reducible refine (laws_eqIntS.calls k _ _ l0_1 _ _ l1_1 true _ ?side1 ?side2 ?side3 ?side4 A5.out).mono ?_); (case side1 => repeat (first | exact (Kd.C_below HR0_1.out (by repeat (first | (with_reducible first | exact HB.out | apply below_alloc | apply pw_below_drewN | apply below_drew1 | refine below_set ?_ GE215.out | refine below_set ?_ GE216.out) | exact HB.out))) | (with_reducible refine Kd.C_alloc ?_ _) | (with_reducible refine Kd.C_drewN ?_ _) | (with_reducible refine Kd.C_drew ?_))); (case side2 => exact HC0_1.out); (case side3 => repeat (first | exact (Kd.C_below HR1_1.out (by repeat (first | (with_reducible first | exact HB.out | apply below_alloc | apply pw_below_drewN | apply below_drew1 | refine below_set ?_ GE215.out | refine below_set ?_ GE216.out) | exact HB.out))) | (with_reducible refine Kd.C_alloc ?_ _) | (with_reducible refine Kd.C_drewN ?_ _) | (with_reducible refine Kd.C_drew ?_))); (case side4 => exact HC1_1.out); rintro e w' ⟨rfl, ⟨nd, rfl⟩⟩; refine ⟨_, rfl, ?_⟩))
          go_ret
          exact ⟨by first | rfl | (simp [errW_none, errW_some] <;> rfl) | (simp [*, errW_none, errW_some] <;> rfl), by repeat (first | (with_reducible first | exact HB.out | apply below_alloc | apply pw_below_drewN | apply below_drew1 | refine below_set ?_ GE215.out | refine below_set ?_ GE216.out) | exact HB.out)⟩
        · rw [if_neg c8] at H
          have c8b0 : (a0_3 == a1_3) = false := beq_eq_false_iff_ne.mpr c8
          have c8b1 : (a0_3 != a1_3) = true := bne_iff_ne.mpr c8
          obtain rfl := Option.some.inj H
          go_enter Try.func13, Try.ntmps13
          go_wp2_with (first | ((with_reducible refine gate_dst (N := 2) rfl ?_); refine box_event ?hg (N := 2) ?hd (cs := #[.slice A0_0 l0_0.length c0_0, .slice A0_1 l0_1.length c0_1, .int .i64 a0_2, .int .i64 a0_3]) (t := 26) ?hr ?_; (case hd => rfl); (case hg => rfl); (case hr => first | (go_simp; done) | (go_simp; rfl)); intro gb215 hg w14 hbox hb; have n0_ := Aside0.mk (below_step (by repeat (first | (with_reducible first | exact HB.out | apply below_alloc | apply pw_below_drewN | apply below_drew1) | exact HB.out)) hb); have n1_ := Aside0.mk (hbox); have n2_ := Aside0.mk ((by rw [hg]; exact (below_size (by repeat (first | (with_reducible first | exact HB.out | apply below_alloc | apply pw_below_drewN | apply below_drew1) | exact HB.out))) : w.heap.size ≤ gb215)); have n3_ := Aside0.mk ((by rw [hg]; exact (below_size (by repeat (first | (with_reducible first | exact HB.out | apply below_alloc | apply pw_below_drewN | apply below_drew1) | exact HB.out))) : w.heap.size ≤ gb215)); clear HB; have HB := n0_; have BK215 := n1_; have GW215 := n2_; have GE215 := n3_; clear n0_ n1_ n2_ n3_; clear hb hbox hg) | ((with_reducible refine gate_dst (N := 3) rfl ?_); refine box_event ?hg (N := 3) ?hd (cs := #[.slice A1_0 l1_0.length c1_0, .slice A1_1 l1_1.length c1_1, .int .i64 a1_2, .int .i64 a1_3]) (t := 26) ?hr ?_; (case hd => rfl); (case hg => rfl); (case hr => first | (go_simp; done) | (go_simp; rfl)); intro gb216 hg w15 hbox hb; have n0_ := Aside0.mk (blk_below (g := gb215) (o := .cells #[.slice A0_0 l0_0.length c0_0, .slice A0_1 l0_1.length c0_1, .int .i64 a0_2, .int .i64 a0_3] 26 (0, 0)) (by (with_reducible repeat (first | refine blk_drewN ?_ _ | refine blk_drew ?_ | refine blk_alloc ?_ _)); exact BK215.out) hb); have n1_ := Aside0.mk (below_step (by repeat (first | (with_reducible first | exact HB.out | apply below_alloc | apply pw_below_drewN | apply below_drew1 | refine below_set ?_ GE215.out) | exact HB.out)) hb); have n2_ := Aside0.mk (hbox); have n3_ := Aside0.mk ((by rw [hg]; exact (below_size (by repeat (first | (with_reducible first | exact HB.out | apply below_alloc | apply pw_below_drewN | apply below_drew1 | refine below_set ?_ GE215.out) | exact HB.out))) : w.heap.size ≤ gb216)); have n4_ := Aside0.mk ((by rw [hg]; exact (below_size (by repeat (first | (with_reducible first | exact HB.out | apply below_alloc | apply pw_below_drewN | apply below_drew1 | refine below_set ?_ GE215.out) | exact HB.out))) : w.heap.size ≤ gb216)); have n5_ := Aside0.mk ((by rw [hg]; exact Nat.ne_of_lt (blk_lt (g := gb215) (o := .cells #[.slice A0_0 l0_0.length c0_0, .slice A0_1 l0_1.length c0_1, .int .i64 a0_2, .int .i64 a0_3] 26 (0, 0)) (by (with_reducible repeat (first | refine blk_drewN ?_ _ | refine blk_drew ?_ | refine blk_alloc ?_ _)); exact BK215.out)) : gb215 ≠ gb216)); have n6_ := Aside0.mk ((by rw [hg]; exact Nat.ne_of_gt (blk_lt (g := gb215) (o := .cells #[.slice A0_0 l0_0.length c0_0, .slice A0_1 l0_1.length c0_1, .int .i64 a0_2, .int .i64 a0_3] 26 (0, 0)) (by (with_reducible repeat (first | refine blk_drewN ?_ _ | refine blk_drew ?_ | refine blk_alloc ?_ _)); exact BK215.out)) : gb216 ≠ gb215)); clear BK215; clear HB; have BK215 := n0_; have HB := n1_; have BK216 := n2_; have GW216 := n3_; have GE216 := n4_; have NB215_216 := n5_; have NB216_215 := n6_; clear n0_ n1_ n2_ n3_ n4_ n5_ n6_; clear hb hbox hg; have hnb16 := NB215_216.out; have hnc16 := NB216_215.out; have hcz17_0 : w15.cell? ⟨gb215, 0, none⟩ = some (.slice A0_0 l0_0.length c0_0) := (blk_cell BK215.out 0).trans rfl; have hcz17_1 : w15.cell? ⟨gb215, 1, none⟩ = some (.slice A0_1 l0_1.length c0_1) := (blk_cell BK215.out 1).trans rfl; have hcz17_2 : w15.cell? ⟨gb215, 2, none⟩ = some (.int .i64 a0_2) := (blk_cell BK215.out 2).trans rfl; have hcz17_3 : w15.cell? ⟨gb215, 3, none⟩ = some (.int .i64 a0_3) := (blk_cell BK215.out 3).trans rfl; have hfz17_0 := blk_frozen BK215.out 0; have hfz17_1 := blk_frozen BK215.out 1; have hfz17_2 := blk_frozen BK215.out 2; have hfz17_3 := blk_frozen BK215.out 3; have hcz18_0 : w15.cell? ⟨gb216, 0, none⟩ = some (.slice A1_0 l1_0.length c1_0) := (blk_cell BK216.out 0).trans rfl; have hcz18_1 : w15.cell? ⟨gb216, 1, none⟩ = some (.slice A1_1 l1_1.length c1_1) := (blk_cell BK216.out 1).trans rfl; have hcz18_2 : w15.cell? ⟨gb216, 2, none⟩ = some (.int .i64 a1_2) := (blk_cell BK216.out 2).trans rfl; have hcz18_3 : w15.cell? ⟨gb216, 3, none⟩ = some (.int .i64 a1_3) := (blk_cell BK216.out 3).trans rfl; have hfz18_0 := blk_frozen BK216.out 0; have hfz18_1 := blk_frozen BK216.out 1; have hfz18_2 := blk_frozen BK216.out 2; have hfz18_3 := blk_frozen BK216.out 3) | ((with_reducible refine gate_callee (f := 43) rfl ?_); refine goesL_ (some 9) rfl rfl Try.func43 (by kernel_rfl) rfl #[.slice A0_0 l0_0.length c0_0, .slice A1_0 l1_0.length c1_0] rfl (by (try simp only [List.map_toArray, List.map_cons, List.map_nil]); first | done | rfl | (simp only [List.length_drop, List.length_take]; rfl)) ?_; (with_reducible refine (laws_eqIntS.calls k _ _ l0_0 _ _ l1_0 true _ ?side1 ?side2 ?side3 ?side4 A3.out).mono ?_); (case side1 => repeat (first | exact (Kd.C_below HR0_0.out HB.out) | (with_reducible refine Kd.C_alloc ?_ _) | (with_reducible refine Kd.C_drewN ?_ _) | (with_reducible refine Kd.C_drew ?_))); (case side2 => exact HC0_0.out); (case side3 => repeat (first | exact (Kd.C_below HR1_0.out HB.out) | (with_reducible refine Kd.C_alloc ?_ _) | (with_reducible refine Kd.C_drewN ?_ _) | (with_reducible refine Kd.C_drew ?_))); (case side4 => exact HC1_0.out); rintro e w' ⟨rfl, ⟨nd, rfl⟩⟩; refine ⟨_, rfl, ?_⟩) | ((with_reducible refine gate_callee (f := 43) rfl ?_); refine goesL_ (some 15) rfl rfl Try.func43 (by kernel_rfl) rfl #[.slice A0_1 l0_1.length c0_1, .slice A1_1 l1_1.length c1_1] rfl (by (try simp only [List.map_toArray, List.map_cons, List.map_nil]); first | done | rfl | (simp only [List.length_drop, List.length_take]; rfl)) ?_; (with_reducible refine (laws_eqIntS.calls k _ _ l0_1 _ _ l1_1 true _ ?side1 ?side2 ?side3 ?side4 A5.out).mono ?_); (case side1 => repeat (first | exact (Kd.C_below HR0_1.out (by repeat (first | (with_reducible first | exact HB.out | apply below_alloc | apply pw_below_drewN | apply below_drew1 | refine below_set ?_ GE215.out | refine below_set ?_ GE216.out) | exact HB.out))) | (with_reducible refine Kd.C_alloc ?_ _) | (with_reducible refine Kd.C_drewN ?_ _) | (with_reducible refine Kd.C_drew ?_))); (case side2 => exact HC0_1.out); (case side3 => repeat (first | exact (Kd.C_below HR1_1.out (by repeat (first | (with_reducible first | exact HB.out | apply below_alloc | apply pw_below_drewN | apply below_drew1 | refine below_set ?_ GE215.out | refine below_set ?_ GE216.out) | exact HB.out))) | (with_reducible refine Kd.C_alloc ?_ _) | (with_reducible refine Kd.C_drewN ?_ _) | (with_reducible refine Kd.C_drew ?_))); (case side4 => exact HC1_1.out); rintro e w' ⟨rfl, ⟨nd, rfl⟩⟩; refine ⟨_, rfl, ?_⟩))
          go_ret
          exact ⟨by first | rfl | (simp [errW_none, errW_some] <;> rfl) | (simp [*, errW_none, errW_some] <;> rfl), by repeat (first | (with_reducible first | exact HB.out | apply below_alloc | apply pw_below_drewN | apply below_drew1 | refine below_set ?_ GE215.out | refine below_set ?_ GE216.out) | exact HB.out)⟩
      · rw [if_neg c7] at H
        have c7b0 : (a0_2 == a1_2) = false := beq_eq_false_iff_ne.mpr c7
        have c7b1 : (a0_2 != a1_2) = true := bne_iff_ne.mpr c7
        obtain rfl := Option.some.inj H
        go_enter Try.func13, Try.ntmps13
        go_wp2_with (first | ((with_reducible refine gate_dst (N := 2) rfl ?_); refine box_event ?hg (N := 2) ?hd (cs := #[.slice A0_0 l0_0.length c0_0, .slice A0_1 l0_1.length c0_1, .int .i64 a0_2, .int .i64 a0_3]) (t := 26) ?hr ?_; (case hd => rfl); (case hg => rfl); (case hr => first | (go_simp; done) | (go_simp; rfl)); intro gb215 hg w19 hbox hb; have n0_ := Aside0.mk (below_step (by repeat (first | (with_reducible first | exact HB.out | apply below_alloc | apply pw_below_drewN | apply below_drew1) | exact HB.out)) hb); have n1_ := Aside0.mk (hbox); have n2_ := Aside0.mk ((by rw [hg]; exact (below_size (by repeat (first | (with_reducible first | exact HB.out | apply below_alloc | apply pw_below_drewN | apply below_drew1) | exact HB.out))) : w.heap.size ≤ gb215)); have n3_ := Aside0.mk ((by rw [hg]; exact (below_size (by repeat (first | (with_reducible first | exact HB.out | apply below_alloc | apply pw_below_drewN | apply below_drew1) | exact HB.out))) : w.heap.size ≤ gb215)); clear HB; have HB := n0_; have BK215 := n1_; have GW215 := n2_; have GE215 := n3_; clear n0_ n1_ n2_ n3_; clear hb hbox hg) | ((with_reducible refine gate_dst (N := 3) rfl ?_); refine box_event ?hg (N := 3) ?hd (cs := #[.slice A1_0 l1_0.length c1_0, .slice A1_1 l1_1.length c1_1, .int .i64 a1_2, .int .i64 a1_3]) (t := 26) ?hr ?_; (case hd => rfl); (case hg => rfl); (case hr => first | (go_simp; done) | (go_simp; rfl)); intro gb216 hg w20 hbox hb; have n0_ := Aside0.mk (blk_below (g := gb215) (o := .cells #[.slice A0_0 l0_0.length c0_0, .slice A0_1 l0_1.length c0_1, .int .i64 a0_2, .int .i64 a0_3] 26 (0, 0)) (by (with_reducible repeat (first | refine blk_drewN ?_ _ | refine blk_drew ?_ | refine blk_alloc ?_ _)); exact BK215.out) hb); have n1_ := Aside0.mk (below_step (by repeat (first | (with_reducible first | exact HB.out | apply below_alloc | apply pw_below_drewN | apply below_drew1 | refine below_set ?_ GE215.out) | exact HB.out)) hb); have n2_ := Aside0.mk (hbox); have n3_ := Aside0.mk ((by rw [hg]; exact (below_size (by repeat (first | (with_reducible first | exact HB.out | apply below_alloc | apply pw_below_drewN | apply below_drew1 | refine below_set ?_ GE215.out) | exact HB.out))) : w.heap.size ≤ gb216)); have n4_ := Aside0.mk ((by rw [hg]; exact (below_size (by repeat (first | (with_reducible first | exact HB.out | apply below_alloc | apply pw_below_drewN | apply below_drew1 | refine below_set ?_ GE215.out) | exact HB.out))) : w.heap.size ≤ gb216)); have n5_ := Aside0.mk ((by rw [hg]; exact Nat.ne_of_lt (blk_lt (g := gb215) (o := .cells #[.slice A0_0 l0_0.length c0_0, .slice A0_1 l0_1.length c0_1, .int .i64 a0_2, .int .i64 a0_3] 26 (0, 0)) (by (with_reducible repeat (first | refine blk_drewN ?_ _ | refine blk_drew ?_ | refine blk_alloc ?_ _)); exact BK215.out)) : gb215 ≠ gb216)); have n6_ := Aside0.mk ((by rw [hg]; exact Nat.ne_of_gt (blk_lt (g := gb215) (o := .cells #[.slice A0_0 l0_0.length c0_0, .slice A0_1 l0_1.length c0_1, .int .i64 a0_2, .int .i64 a0_3] 26 (0, 0)) (by (with_reducible repeat (first | refine blk_drewN ?_ _ | refine blk_drew ?_ | refine blk_alloc ?_ _)); exact BK215.out)) : gb216 ≠ gb215)); clear BK215; clear HB; have BK215 := n0_; have HB := n1_; have BK216 := n2_; have GW216 := n3_; have GE216 := n4_; have NB215_216 := n5_; have NB216_215 := n6_; clear n0_ n1_ n2_ n3_ n4_ n5_ n6_; clear hb hbox hg; have hnb21 := NB215_216.out; have hnc21 := NB216_215.out; have hcz22_0 : w20.cell? ⟨gb215, 0, none⟩ = some (.slice A0_0 l0_0.length c0_0) := (blk_cell BK215.out 0).trans rfl; have hcz22_1 : w20.cell? ⟨gb215, 1, none⟩ = some (.slice A0_1 l0_1.length c0_1) := (blk_cell BK215.out 1).trans rfl; have hcz22_2 : w20.cell? ⟨gb215, 2, none⟩ = some (.int .i64 a0_2) := (blk_cell BK215.out 2).trans rfl; have hcz22_3 : w20.cell? ⟨gb215, 3, none⟩ = some (.int .i64 a0_3) := (blk_cell BK215.out 3).trans rfl; have hfz22_0 := blk_frozen BK215.out 0; have hfz22_1 := blk_frozen BK215.out 1; have hfz22_2 := blk_frozen BK215.out 2; have hfz22_3 := blk_frozen BK215.out 3; have hcz23_0 : w20.cell? ⟨gb216, 0, none⟩ = some (.slice A1_0 l1_0.length c1_0) := (blk_cell BK216.out 0).trans rfl; have hcz23_1 : w20.cell? ⟨gb216, 1, none⟩ = some (.slice A1_1 l1_1.length c1_1) := (blk_cell BK216.out 1).trans rfl; have hcz23_2 : w20.cell? ⟨gb216, 2, none⟩ = some (.int .i64 a1_2) := (blk_cell BK216.out 2).trans rfl; have hcz23_3 : w20.cell? ⟨gb216, 3, none⟩ = some (.int .i64 a1_3) := (blk_cell BK216.out 3).trans rfl; have hfz23_0 := blk_frozen BK216.out 0; have hfz23_1 := blk_frozen BK216.out 1; have hfz23_2 := blk_frozen BK216.out 2; have hfz23_3 := blk_frozen BK216.out 3) | ((with_reducible refine gate_callee (f := 43) rfl ?_); refine goesL_ (some 9) rfl rfl Try.func43 (by kernel_rfl) rfl #[.slice A0_0 l0_0.length c0_0, .slice A1_0 l1_0.length c1_0] rfl (by (try simp only [List.map_toArray, List.map_cons, List.map_nil]); first | done | rfl | (simp only [List.length_drop, List.length_take]; rfl)) ?_; (with_reducible refine (laws_eqIntS.calls k _ _ l0_0 _ _ l1_0 true _ ?side1 ?side2 ?side3 ?side4 A3.out).mono ?_); (case side1 => repeat (first | exact (Kd.C_below HR0_0.out HB.out) | (with_reducible refine Kd.C_alloc ?_ _) | (with_reducible refine Kd.C_drewN ?_ _) | (with_reducible refine Kd.C_drew ?_))); (case side2 => exact HC0_0.out); (case side3 => repeat (first | exact (Kd.C_below HR1_0.out HB.out) | (with_reducible refine Kd.C_alloc ?_ _) | (with_reducible refine Kd.C_drewN ?_ _) | (with_reducible refine Kd.C_drew ?_))); (case side4 => exact HC1_0.out); rintro e w' ⟨rfl, ⟨nd, rfl⟩⟩; refine ⟨_, rfl, ?_⟩) | ((with_reducible refine gate_callee (f := 43) rfl ?_); refine goesL_ (some 15) rfl rfl Try.func43 (by kernel_rfl) rfl #[.slice A0_1 l0_1.length c0_1, .slice A1_1 l1_1.length c1_1] rfl (by (try simp only [List.map_toArray, List.map_cons, List.map_nil]); first | done | rfl | (simp only [List.length_drop, List.length_take]; rfl)) ?_; (with_reducible refine (laws_eqIntS.calls k _ _ l0_1 _ _ l1_1 true _ ?side1 ?side2 ?side3 ?side4 A5.out).mono ?_); (case side1 => repeat (first | exact (Kd.C_below HR0_1.out (by repeat (first | (with_reducible first | exact HB.out | apply below_alloc | apply pw_below_drewN | apply below_drew1 | refine below_set ?_ GE215.out | refine below_set ?_ GE216.out) | exact HB.out))) | (with_reducible refine Kd.C_alloc ?_ _) | (with_reducible refine Kd.C_drewN ?_ _) | (with_reducible refine Kd.C_drew ?_))); (case side2 => exact HC0_1.out); (case side3 => repeat (first | exact (Kd.C_below HR1_1.out (by repeat (first | (with_reducible first | exact HB.out | apply below_alloc | apply pw_below_drewN | apply below_drew1 | refine below_set ?_ GE215.out | refine below_set ?_ GE216.out) | exact HB.out))) | (with_reducible refine Kd.C_alloc ?_ _) | (with_reducible refine Kd.C_drewN ?_ _) | (with_reducible refine Kd.C_drew ?_))); (case side4 => exact HC1_1.out); rintro e w' ⟨rfl, ⟨nd, rfl⟩⟩; refine ⟨_, rfl, ?_⟩))
        go_ret
        exact ⟨by first | rfl | (simp [errW_none, errW_some] <;> rfl) | (simp [*, errW_none, errW_some] <;> rfl), by repeat (first | (with_reducible first | exact HB.out | apply below_alloc | apply pw_below_drewN | apply below_drew1 | refine below_set ?_ GE215.out | refine below_set ?_ GE216.out) | exact HB.out)⟩
    · replace c6 := Bool.eq_false_iff.mpr c6
      subst c6
      have H1 : (some false) = some r := by rw [if_neg (show ¬ (false = true) by decide)] at H; exact H
      clear H
      have H := H1
      clear H1
      obtain rfl := Option.some.inj H
      go_enter Try.func13, Try.ntmps13
      go_wp2_with (first | ((with_reducible refine gate_dst (N := 2) rfl ?_); refine box_event ?hg (N := 2) ?hd (cs := #[.slice A0_0 l0_0.length c0_0, .slice A0_1 l0_1.length c0_1, .int .i64 a0_2, .int .i64 a0_3]) (t := 26) ?hr ?_; (case hd => rfl); (case hg => rfl); (case hr => first | (go_simp; done) | (go_simp; rfl)); intro gb215 hg w24 hbox hb; have n0_ := Aside0.mk (below_step (by repeat (first | (with_reducible first | exact HB.out | apply below_alloc | apply pw_below_drewN | apply below_drew1) | exact HB.out)) hb); have n1_ := Aside0.mk (hbox); have n2_ := Aside0.mk ((by rw [hg]; exact (below_size (by repeat (first | (with_reducible first | exact HB.out | apply below_alloc | apply pw_below_drewN | apply below_drew1) | exact HB.out))) : w.heap.size ≤ gb215)); have n3_ := Aside0.mk ((by rw [hg]; exact (below_size (by repeat (first | (with_reducible first | exact HB.out | apply below_alloc | apply pw_below_drewN | apply below_drew1) | exact HB.out))) : w.heap.size ≤ gb215)); clear HB; have HB := n0_; have BK215 := n1_; have GW215 := n2_; have GE215 := n3_; clear n0_ n1_ n2_ n3_; clear hb hbox hg) | ((with_reducible refine gate_dst (N := 3) rfl ?_); refine box_event ?hg (N := 3) ?hd (cs := #[.slice A1_0 l1_0.length c1_0, .slice A1_1 l1_1.length c1_1, .int .i64 a1_2, .int .i64 a1_3]) (t := 26) ?hr ?_; (case hd => rfl); (case hg => rfl); (case hr => first | (go_simp; done) | (go_simp; rfl)); intro gb216 hg w25 hbox hb; have n0_ := Aside0.mk (blk_below (g := gb215) (o := .cells #[.slice A0_0 l0_0.length c0_0, .slice A0_1 l0_1.length c0_1, .int .i64 a0_2, .int .i64 a0_3] 26 (0, 0)) (by (with_reducible repeat (first | refine blk_drewN ?_ _ | refine blk_drew ?_ | refine blk_alloc ?_ _)); exact BK215.out) hb); have n1_ := Aside0.mk (below_step (by repeat (first | (with_reducible first | exact HB.out | apply below_alloc | apply pw_below_drewN | apply below_drew1 | refine below_set ?_ GE215.out) | exact HB.out)) hb); have n2_ := Aside0.mk (hbox); have n3_ := Aside0.mk ((by rw [hg]; exact (below_size (by repeat (first | (with_reducible first | exact HB.out | apply below_alloc | apply pw_below_drewN | apply below_drew1 | refine below_set ?_ GE215.out) | exact HB.out))) : w.heap.size ≤ gb216)); have n4_ := Aside0.mk ((by rw [hg]; exact (below_size (by repeat (first | (with_reducible first | exact HB.out | apply below_alloc | apply pw_below_drewN | apply below_drew1 | refine below_set ?_ GE215.out) | exact HB.out))) : w.heap.size ≤ gb216)); have n5_ := Aside0.mk ((by rw [hg]; exact Nat.ne_of_lt (blk_lt (g := gb215) (o := .cells #[.slice A0_0 l0_0.length c0_0, .slice A0_1 l0_1.length c0_1, .int .i64 a0_2, .int .i64 a0_3] 26 (0, 0)) (by (with_reducible repeat (first | refine blk_drewN ?_ _ | refine blk_drew ?_ | refine blk_alloc ?_ _)); exact BK215.out)) : gb215 ≠ gb216)); have n6_ := Aside0.mk ((by rw [hg]; exact Nat.ne_of_gt (blk_lt (g := gb215) (o := .cells #[.slice A0_0 l0_0.length c0_0, .slice A0_1 l0_1.length c0_1, .int .i64 a0_2, .int .i64 a0_3] 26 (0, 0)) (by (with_reducible repeat (first | refine blk_drewN ?_ _ | refine blk_drew ?_ | refine blk_alloc ?_ _)); exact BK215.out)) : gb216 ≠ gb215)); clear BK215; clear HB; have BK215 := n0_; have HB := n1_; have BK216 := n2_; have GW216 := n3_; have GE216 := n4_; have NB215_216 := n5_; have NB216_215 := n6_; clear n0_ n1_ n2_ n3_ n4_ n5_ n6_; clear hb hbox hg; have hnb26 := NB215_216.out; have hnc26 := NB216_215.out; have hcz27_0 : w25.cell? ⟨gb215, 0, none⟩ = some (.slice A0_0 l0_0.length c0_0) := (blk_cell BK215.out 0).trans rfl; have hcz27_1 : w25.cell? ⟨gb215, 1, none⟩ = some (.slice A0_1 l0_1.length c0_1) := (blk_cell BK215.out 1).trans rfl; have hcz27_2 : w25.cell? ⟨gb215, 2, none⟩ = some (.int .i64 a0_2) := (blk_cell BK215.out 2).trans rfl; have hcz27_3 : w25.cell? ⟨gb215, 3, none⟩ = some (.int .i64 a0_3) := (blk_cell BK215.out 3).trans rfl; have hfz27_0 := blk_frozen BK215.out 0; have hfz27_1 := blk_frozen BK215.out 1; have hfz27_2 := blk_frozen BK215.out 2; have hfz27_3 := blk_frozen BK215.out 3; have hcz28_0 : w25.cell? ⟨gb216, 0, none⟩ = some (.slice A1_0 l1_0.length c1_0) := (blk_cell BK216.out 0).trans rfl; have hcz28_1 : w25.cell? ⟨gb216, 1, none⟩ = some (.slice A1_1 l1_1.length c1_1) := (blk_cell BK216.out 1).trans rfl; have hcz28_2 : w25.cell? ⟨gb216, 2, none⟩ = some (.int .i64 a1_2) := (blk_cell BK216.out 2).trans rfl; have hcz28_3 : w25.cell? ⟨gb216, 3, none⟩ = some (.int .i64 a1_3) := (blk_cell BK216.out 3).trans rfl; have hfz28_0 := blk_frozen BK216.out 0; have hfz28_1 := blk_frozen BK216.out 1; have hfz28_2 := blk_frozen BK216.out 2; have hfz28_3 := blk_frozen BK216.out 3) | ((with_reducible refine gate_callee (f := 43) rfl ?_); refine goesL_ (some 9) rfl rfl Try.func43 (by kernel_rfl) rfl #[.slice A0_0 l0_0.length c0_0, .slice A1_0 l1_0.length c1_0] rfl (by (try simp only [List.map_toArray, List.map_cons, List.map_nil]); first | done | rfl | (simp only [List.length_drop, List.length_take]; rfl)) ?_; (with_reducible refine (laws_eqIntS.calls k _ _ l0_0 _ _ l1_0 true _ ?side1 ?side2 ?side3 ?side4 A3.out).mono ?_); (case side1 => repeat (first | exact (Kd.C_below HR0_0.out HB.out) | (with_reducible refine Kd.C_alloc ?_ _) | (with_reducible refine Kd.C_drewN ?_ _) | (with_reducible refine Kd.C_drew ?_))); (case side2 => exact HC0_0.out); (case side3 => repeat (first | exact (Kd.C_below HR1_0.out HB.out) | (with_reducible refine Kd.C_alloc ?_ _) | (with_reducible refine Kd.C_drewN ?_ _) | (with_reducible refine Kd.C_drew ?_))); (case side4 => exact HC1_0.out); rintro e w' ⟨rfl, ⟨nd, rfl⟩⟩; refine ⟨_, rfl, ?_⟩) | ((with_reducible refine gate_callee (f := 43) rfl ?_); refine goesL_ (some 15) rfl rfl Try.func43 (by kernel_rfl) rfl #[.slice A0_1 l0_1.length c0_1, .slice A1_1 l1_1.length c1_1] rfl (by (try simp only [List.map_toArray, List.map_cons, List.map_nil]); first | done | rfl | (simp only [List.length_drop, List.length_take]; rfl)) ?_; (with_reducible refine (laws_eqIntS.calls k _ _ l0_1 _ _ l1_1 false _ ?side1 ?side2 ?side3 ?side4 A5.out).mono ?_); (case side1 => repeat (first | exact (Kd.C_below HR0_1.out (by repeat (first | (with_reducible first | exact HB.out | apply below_alloc | apply pw_below_drewN | apply below_drew1 | refine below_set ?_ GE215.out | refine below_set ?_ GE216.out) | exact HB.out))) | (with_reducible refine Kd.C_alloc ?_ _) | (with_reducible refine Kd.C_drewN ?_ _) | (with_reducible refine Kd.C_drew ?_))); (case side2 => exact HC0_1.out); (case side3 => repeat (first | exact (Kd.C_below HR1_1.out (by repeat (first | (with_reducible first | exact HB.out | apply below_alloc | apply pw_below_drewN | apply below_drew1 | refine below_set ?_ GE215.out | refine below_set ?_ GE216.out) | exact HB.out))) | (with_reducible refine Kd.C_alloc ?_ _) | (with_reducible refine Kd.C_drewN ?_ _) | (with_reducible refine Kd.C_drew ?_))); (case side4 => exact HC1_1.out); rintro e w' ⟨rfl, ⟨nd, rfl⟩⟩; refine ⟨_, rfl, ?_⟩))
      go_ret
      exact ⟨by first | rfl | (simp [errW_none, errW_some] <;> rfl) | (simp [*, errW_none, errW_some] <;> rfl), by repeat (first | (with_reducible first | exact HB.out | apply below_alloc | apply pw_below_drewN | apply below_drew1 | refine below_set ?_ GE215.out | refine below_set ?_ GE216.out) | exact HB.out)⟩
  · replace c4 := Bool.eq_false_iff.mpr c4
    subst c4
    have H1 : (some false) = some r := by rw [if_neg (show ¬ (false = true) by decide)] at H; exact H
    clear H
    have H := H1
    clear H1
    obtain rfl := Option.some.inj H
    go_enter Try.func13, Try.ntmps13
    go_wp2_with (first | ((with_reducible refine gate_dst (N := 2) rfl ?_); refine box_event ?hg (N := 2) ?hd (cs := #[.slice A0_0 l0_0.length c0_0, .slice A0_1 l0_1.length c0_1, .int .i64 a0_2, .int .i64 a0_3]) (t := 26) ?hr ?_; (case hd => rfl); (case hg => rfl); (case hr => first | (go_simp; done) | (go_simp; rfl)); intro gb215 hg w29 hbox hb; have n0_ := Aside0.mk (below_step (by repeat (first | (with_reducible first | exact HB.out | apply below_alloc | apply pw_below_drewN | apply below_drew1) | exact HB.out)) hb); have n1_ := Aside0.mk (hbox); have n2_ := Aside0.mk ((by rw [hg]; exact (below_size (by repeat (first | (with_reducible first | exact HB.out | apply below_alloc | apply pw_below_drewN | apply below_drew1) | exact HB.out))) : w.heap.size ≤ gb215)); have n3_ := Aside0.mk ((by rw [hg]; exact (below_size (by repeat (first | (with_reducible first | exact HB.out | apply below_alloc | apply pw_below_drewN | apply below_drew1) | exact HB.out))) : w.heap.size ≤ gb215)); clear HB; have HB := n0_; have BK215 := n1_; have GW215 := n2_; have GE215 := n3_; clear n0_ n1_ n2_ n3_; clear hb hbox hg) | ((with_reducible refine gate_dst (N := 3) rfl ?_); refine box_event ?hg (N := 3) ?hd (cs := #[.slice A1_0 l1_0.length c1_0, .slice A1_1 l1_1.length c1_1, .int .i64 a1_2, .int .i64 a1_3]) (t := 26) ?hr ?_; (case hd => rfl); (case hg => rfl); (case hr => first | (go_simp; done) | (go_simp; rfl)); intro gb216 hg w30 hbox hb; have n0_ := Aside0.mk (blk_below (g := gb215) (o := .cells #[.slice A0_0 l0_0.length c0_0, .slice A0_1 l0_1.length c0_1, .int .i64 a0_2, .int .i64 a0_3] 26 (0, 0)) (by (with_reducible repeat (first | refine blk_drewN ?_ _ | refine blk_drew ?_ | refine blk_alloc ?_ _)); exact BK215.out) hb); have n1_ := Aside0.mk (below_step (by repeat (first | (with_reducible first | exact HB.out | apply below_alloc | apply pw_below_drewN | apply below_drew1 | refine below_set ?_ GE215.out) | exact HB.out)) hb); have n2_ := Aside0.mk (hbox); have n3_ := Aside0.mk ((by rw [hg]; exact (below_size (by repeat (first | (with_reducible first | exact HB.out | apply below_alloc | apply pw_below_drewN | apply below_drew1 | refine below_set ?_ GE215.out) | exact HB.out))) : w.heap.size ≤ gb216)); have n4_ := Aside0.mk ((by rw [hg]; exact (below_size (by repeat (first | (with_reducible first | exact HB.out | apply below_alloc | apply pw_below_drewN | apply below_drew1 | refine below_set ?_ GE215.out) | exact HB.out))) : w.heap.size ≤ gb216)); have n5_ := Aside0.mk ((by rw [hg]; exact Nat.ne_of_lt (blk_lt (g := gb215) (o := .cells #[.slice A0_0 l0_0.length c0_0, .slice A0_1 l0_1.length c0_1, .int .i64 a0_2, .int .i64 a0_3] 26 (0, 0)) (by (with_reducible repeat (first | refine blk_drewN ?_ _ | refine blk_drew ?_ | refine blk_alloc ?_ _)); exact BK215.out)) : gb215 ≠ gb216)); have n6_ := Aside0.mk ((by rw [hg]; exact Nat.ne_of_gt (blk_lt (g := gb215) (o := .cells #[.slice A0_0 l0_0.length c0_0, .slice A0_1 l0_1.length c0_1, .int .i64 a0_2, .int .i64 a0_3] 26 (0, 0)) (by (with_reducible repeat (first | refine blk_drewN ?_ _ | refine blk_drew ?_ | refine blk_alloc ?_ _)); exact BK215.out)) : gb216 ≠ gb215)); clear BK215; clear HB; have BK215 := n0_; have HB := n1_; have BK216 := n2_; have GW216 := n3_; have GE216 := n4_; have NB215_216 := n5_; have NB216_215 := n6_; clear n0_ n1_ n2_ n3_ n4_ n5_ n6_; clear hb hbox hg; have hnb31 := NB215_216.out; have hnc31 := NB216_215.out; have hcz32_0 : w30.cell? ⟨gb215, 0, none⟩ = some (.slice A0_0 l0_0.length c0_0) := (blk_cell BK215.out 0).trans rfl; have hcz32_1 : w30.cell? ⟨gb215, 1, none⟩ = some (.slice A0_1 l0_1.length c0_1) := (blk_cell BK215.out 1).trans rfl; have hcz32_2 : w30.cell? ⟨gb215, 2, none⟩ = some (.int .i64 a0_2) := (blk_cell BK215.out 2).trans rfl; have hcz32_3 : w30.cell? ⟨gb215, 3, none⟩ = some (.int .i64 a0_3) := (blk_cell BK215.out 3).trans rfl; have hfz32_0 := blk_frozen BK215.out 0; have hfz32_1 := blk_frozen BK215.out 1; have hfz32_2 := blk_frozen BK215.out 2; have hfz32_3 := blk_frozen BK215.out 3; have hcz33_0 : w30.cell? ⟨gb216, 0, none⟩ = some (.slice A1_0 l1_0.length c1_0) := (blk_cell BK216.out 0).trans rfl; have hcz33_1 : w30.cell? ⟨gb216, 1, none⟩ = some (.slice A1_1 l1_1.length c1_1) := (blk_cell BK216.out 1).trans rfl; have hcz33_2 : w30.cell? ⟨gb216, 2, none⟩ = some (.int .i64 a1_2) := (blk_cell BK216.out 2).trans rfl; have hcz33_3 : w30.cell? ⟨gb216, 3, none⟩ = some (.int .i64 a1_3) := (blk_cell BK216.out 3).trans rfl; have hfz33_0 := blk_frozen BK216.out 0; have hfz33_1 := blk_frozen BK216.out 1; have hfz33_2 := blk_frozen BK216.out 2; have hfz33_3 := blk_frozen BK216.out 3) | ((with_reducible refine gate_callee (f := 43) rfl ?_); refine goesL_ (some 9) rfl rfl Try.func43 (by kernel_rfl) rfl #[.slice A0_0 l0_0.length c0_0, .slice A1_0 l1_0.length c1_0] rfl (by (try simp only [List.map_toArray, List.map_cons, List.map_nil]); first | done | rfl | (simp only [List.length_drop, List.length_take]; rfl)) ?_; (with_reducible refine (laws_eqIntS.calls k _ _ l0_0 _ _ l1_0 false _ ?side1 ?side2 ?side3 ?side4 A3.out).mono ?_); (case side1 => repeat (first | exact (Kd.C_below HR0_0.out HB.out) | (with_reducible refine Kd.C_alloc ?_ _) | (with_reducible refine Kd.C_drewN ?_ _) | (with_reducible refine Kd.C_drew ?_))); (case side2 => exact HC0_0.out); (case side3 => repeat (first | exact (Kd.C_below HR1_0.out HB.out) | (with_reducible refine Kd.C_alloc ?_ _) | (with_reducible refine Kd.C_drewN ?_ _) | (with_reducible refine Kd.C_drew ?_))); (case side4 => exact HC1_0.out); rintro e w' ⟨rfl, ⟨nd, rfl⟩⟩; refine ⟨_, rfl, ?_⟩))
    go_ret
    exact ⟨by first | rfl | (simp [errW_none, errW_some] <;> rfl) | (simp [*, errW_none, errW_some] <;> rfl), by repeat (first | (with_reducible first | exact HB.out | apply below_alloc | apply pw_below_drewN | apply below_drew1 | refine below_set ?_ GE215.out | refine below_set ?_ GE216.out) | exact HB.out)⟩

end Go.Proofs.Ytcpemdedmepfeaa.PFnExactSlice
