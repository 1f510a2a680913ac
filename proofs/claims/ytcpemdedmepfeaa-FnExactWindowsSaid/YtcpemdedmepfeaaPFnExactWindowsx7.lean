-- Printed out of the translation, hand-written contracts beside it; checked by the kernel alone.
import Derived.Test.YtcpemdedmepfeaaPFnExactWindowsx0
import Derived.Test.YtcpemdedmepfeaaPFnExactWindowsx6
namespace Go.Proofs.Ytcpemdedmepfeaa.PFnExactWindows
open Go.RowKit Go.Proofs.YtcpemdedmepfeaaW.PrintWords Go.Proofs.YtcpemdedmepfeaaW.PrintLast Go.Proofs.YtcpemdedmepfeaaW.PrintMore
attribute [local go_sem] max2_int min2_int max_two min_two max_three min_three max_four min_four   -- for this text's walks alone
set_option linter.unusedVariables false
set_option linter.unusedSimpArgs false

/-! ### impl_Windows: function 17 -/
theorem setCell_drewN (w : World) (n : Nat) (a : Addr) (v : Value) : (w.drewN n).setCell a v = (w.setCell a v).drewN n := by
  induction n with
  | zero => rfl
  | succ n ih => rw [← World.drew_drewN, World.setCell_drew, ih, World.drew_drewN]
set_option maxHeartbeats 2000000 in
set_option maxRecDepth 100000 in
theorem set_calls (p0 g0 c0 n0 g1 c1 n1 : Nat) (o b axis n s x0 x1 v : Int) (w : World) (hv : v = if n = 1 then 0 else s)
    (hp : w.heap[p0]? = some (.cells #[.slice (some ⟨g0, 0, none⟩) n0 c0, .slice (some ⟨g1, 0, none⟩) n1 c1, .int .i64 o, .int .i64 b] 26 (0, 0)))
    (h0 : w.cell? ⟨g0, axis.toNat, none⟩ = some (.int .i64 x0)) (h1 : w.cell? ⟨g1, axis.toNat, none⟩ = some (.int .i64 x1)) (f0 : w.frozen? ⟨g0, axis.toNat, none⟩ = false) (f1 : w.frozen? ⟨g1, axis.toNat, none⟩ = false) (hne : g0 ≠ g1)
    (ha : 0 ≤ axis) (ha0 : axis < n0) (ha1 : axis < n1) :
    Calls Try.prog 42 #[.pointer (some ⟨p0, 0, none⟩), .int .i64 axis, .int .i64 n, .int .i64 s] w fun e w' => e = .returned (.tuple #[]) ∧ ∃ m, w' = ((w.setCell ⟨g0, axis.toNat, none⟩ (.int .i64 n)).setCell ⟨g1, axis.toNat, none⟩ (.int .i64 v)).drewN m := by
  have hc0 := (blk_cell hp 0).trans (show _ = some (Value.slice (some ⟨g0, 0, none⟩) n0 c0) from rfl)
  have hc1 := (blk_cell hp 1).trans (show _ = some (Value.slice (some ⟨g1, 0, none⟩) n1 c1) from rfl)
  have HP := Aside0.mk hp
  clear hp
  by_cases hn : n = 1
  · subst hn
    rw [if_pos rfl] at hv
    subst hv
    go_enter Try.func42, Try.ntmps42
    go_wp2
    go_region
    all_goals (go_end0; exact ⟨rfl, 1, rfl⟩)
  · rw [if_neg hn] at hv
    subst hv
    have hn1 : (n == 1) = false := beq_eq_false_iff_ne.mpr hn
    clear hn
    go_enter Try.func42, Try.ntmps42
    go_wp2
    go_region
    all_goals (go_end0; exact ⟨rfl, 1, rfl⟩)
theorem isAxis_calls (A : Option Addr) (n c : Nat) (axis : Int) (r : Bool) (w : World) (h : r = decide (0 ≤ axis ∧ axis < (n : Int))) : Calls Try.prog 41 #[.slice A n c, .int .i64 axis] w fun e w' => e = .returned (.bool r) ∧ w = w' := by
  by_cases h0 : 0 ≤ axis
  · have h0b : decide (0 ≤ axis) = true := decide_eq_true h0
    by_cases h1 : axis < (n : Int)
    · have h1b : decide (axis < (n : Int)) = true := decide_eq_true h1
      obtain rfl : r = true := by rw [h]; exact decide_eq_true ⟨h0, h1⟩
      clear h0 h1 h
      go_enter Try.func41, Try.ntmps41
      go_wp2
      go_ret
      exact ⟨rfl, rfl⟩
    · have h1b : decide (axis < (n : Int)) = false := decide_eq_false h1
      obtain rfl : r = false := by rw [h]; exact decide_eq_false (fun z => h1 z.2)
      clear h0 h1 h
      go_enter Try.func41, Try.ntmps41
      go_wp2
      go_ret
      exact ⟨rfl, rfl⟩
  · have h0b : decide (0 ≤ axis) = false := decide_eq_false h0
    obtain rfl : r = false := by rw [h]; exact decide_eq_false (fun z => h0 z.1)
    clear h0 h
    go_enter Try.func41, Try.ntmps41
    go_wp2
    go_ret
    exact ⟨rfl, rfl⟩
/-- What is told of a view in memory, behind a closure over it. -/
def ViewBy (w0 W : World) (base B gw : Nat) (rb : Bool) (m0 m1 : List Int) (m2 m3 : Int) (e : Ending) (W' : World) : Prop :=
  ∃ v0 v1 : Value, e = .returned (.bool rb) ∧ W'.heap[gw]? = some (.cells #[v0, v1, .int .i64 m2, .int .i64 m3] 26 (0, 0)) ∧ Kd.R (Kd.int .i64) 3 W' base (fun k_ => some k_ ≠ (v1 : Value).ownBlock) v0 m0 ∧ Kd.R (Kd.int .i64) 3 W' base (fun k_ => some k_ ≠ (v0 : Value).ownBlock) v1 m1 ∧
    (∀ (g : Nat) (cs : Array Value), g ≠ gw → W.heap[g]? = some (.cells cs 26 (0, 0)) → W'.heap[g]? = some (.cells cs 26 (0, 0))) ∧ W.heap.size ≤ W'.heap.size ∧ Below B w0 W'
/-- The view as it was. -/
theorem ViewBy.same {w0 W : World} {base B gw : Nat} {A0 A1 : Option Addr} {d0 d1 : Nat} {l0 l1 : List Int} {o b : Int} (m : Nat) (r : Bool)
    (hp : W.heap[gw]? = some (.cells #[.slice A0 l0.length d0, .slice A1 l1.length d1, .int .i64 o, .int .i64 b] 26 (0, 0)))
    (h0 : Kd.R (Kd.int .i64) 3 W base (fun k_ => some k_ ≠ (.slice A1 l1.length d1 : Value).ownBlock) (.slice A0 l0.length d0) l0) (h1 : Kd.R (Kd.int .i64) 3 W base (fun k_ => some k_ ≠ (.slice A0 l0.length d0 : Value).ownBlock) (.slice A1 l1.length d1) l1) (hB : Below B w0 W) :
    ViewBy w0 W base B gw r l0 l1 o b (.returned (.bool r)) (W.drewN m) :=
  ⟨_, _, rfl, blk_drewN hp m, Kd.R_drewN h0 m, Kd.R_drewN h1 m, fun g cs _ h => blk_drewN h m, Nat.le_refl _, pw_below_drewN hB m⟩
/-- A number of the view, one of each of its rows written. -/
theorem ViewBy.put {w0 W : World} {base B gw g0 g1 d0 d1 : Nat} {l0 l1 : List Int} {o b : Int} (m : Nat) (i x y z : Int) (h0i : 0 ≤ i)
    (hp : W.heap[gw]? = some (.cells #[.slice (some ⟨g0, 0, none⟩) l0.length d0, .slice (some ⟨g1, 0, none⟩) l1.length d1, .int .i64 o, .int .i64 b] 26 (0, 0)))
    (h0 : Kd.R (Kd.int .i64) 3 W base (fun k_ => some k_ ≠ (.slice (some ⟨g1, 0, none⟩) l1.length d1 : Value).ownBlock) (.slice (some ⟨g0, 0, none⟩) l0.length d0) l0) (h1 : Kd.R (Kd.int .i64) 3 W base (fun k_ => some k_ ≠ (.slice (some ⟨g0, 0, none⟩) l0.length d0 : Value).ownBlock) (.slice (some ⟨g1, 0, none⟩) l1.length d1) l1)
    (hB : Below B w0 W) (hbase : B ≤ base) (hgw : B ≤ gw) :
    ViewBy w0 W base B gw true (l0.set i.toNat x) (l1.set i.toNat y) z b (.returned (.bool true)) ((((W.setCell ⟨gw, 2, none⟩ (.int .i64 z)).setCell ⟨g0, i.toNat, none⟩ (.int .i64 x)).setCell ⟨g1, i.toNat, none⟩ (.int .i64 y)).drewN m) := by
  have e0 : g0 ≠ g1 := by
    have := h0.1 g0 rfl
    intro e
    exact this (by rw [e]; rfl)
  obtain ⟨cs0, hc0⟩ := Kd.R_typed h0 g0 rfl
  obtain ⟨cs1, hc1⟩ := Kd.R_typed h1 g1 rfl
  have n0 : gw ≠ g0 := blk_ne hp hc0 (by decide)
  have n1 : gw ≠ g1 := blk_ne hp hc1 (by decide)
  have b0 := Nat.le_trans hbase (Kd.R_base h0 g0 rfl)
  have b1 := Nat.le_trans hbase (Kd.R_base h1 g1 rfl)
  have s0 := Kd.R_set h0 hp (by decide) 2 (.int .i64 z)
  have s1 := Kd.R_set h1 hp (by decide) 2 (.int .i64 z)
  have p0 := (Kd.R_putg s0 i x).1
  have t1 := Kd.R_far (p := ⟨g0, i.toNat, none⟩) s1 (fun k hk e => hk (by rw [e]; rfl)) (.int .i64 x)
  have t0 := Kd.R_far (p := ⟨g1, i.toNat, none⟩) p0 (fun k hk e => hk (by rw [e]; rfl)) (.int .i64 y)
  have p1 := (Kd.R_putg t1 i y).1
  have e00 : (l0.set i.toNat x).length = l0.length := List.length_set ..
  have e11 : (l1.set i.toNat y).length = l1.length := List.length_set ..
  refine ⟨.slice (some ⟨g0, 0, none⟩) l0.length d0, .slice (some ⟨g1, 0, none⟩) l1.length d1, rfl, blk_drewN (blk_far (blk_far (blk_put hp 2 _ rfl) n0 _) n1 _) m, Kd.R_drewN t0 m, Kd.R_drewN p1 m, ?_, ?_, ?_⟩
  · intro g cs hg h
    have m0 : g ≠ g0 := blk_ne h hc0 (by decide)
    have m1 : g ≠ g1 := blk_ne h hc1 (by decide)
    exact blk_drewN (blk_far (blk_far (blk_far h hg _) m0 _) m1 _) m
  · simp
  · exact pw_below_drewN (((hB.setCell (p := ⟨gw, 2, none⟩) hgw _).setCell (p := ⟨g0, i.toNat, none⟩) b0 _).setCell (p := ⟨g1, i.toNat, none⟩) b1 _) m
set_option maxHeartbeats 2000000 in
set_option maxRecDepth 100000 in
theorem impl_turn.no (k g : Nat) (caps : Array Value) (A0 : Option Addr) (c0 : Nat) (l0 : List Int) (A1 : Option Addr) (c1 : Nat) (l1 : List Int) (o b : Int) (w : World)
    (hr0 : Kd.C (Kd.int .i64) w A0 l0.length l0) (hc0 : l0.length ≤ c0) (hr1 : Kd.C (Kd.int .i64) w A1 l1.length l1) (hc1 : l1.length ≤ c1) (hv : impl_ViewOk.f k l0 l1 o b = some false) :
    Calls Try.prog 39 #[.agg #[.slice A0 l0.length c0, .slice A1 l1.length c1, .int .i64 o, .int .i64 b], .func (.func g) #[] caps] w fun e w' => e = .returned (.agg #[.slice none 0 0, .slice none 0 0, .int .i64 0, .int .i64 0]) ∧ Below w.heap.size w w' := by
  have hu26 := Try.underlying26
  have HR0 := Aside0.mk hr0
  have HC0 := Aside0.mk hc0
  have HR1 := Aside0.mk hr1
  have HC1 := Aside0.mk hc1
  have HV := Aside0.mk hv
  clear hr0 hc0 hr1 hc1 hv
  have HB := Aside0.mk (Below.refl w.heap.size w)
  go_enter Try.func39, Try.ntmps39
  go_wp2_with (first | ((with_reducible refine gate_dst (N := 2) rfl ?_); refine box_event ?hg (N := 2) ?hd (cs := #[.slice A0 l0.length c0, .slice A1 l1.length c1, .int .i64 o, .int .i64 b]) (t := 26) ?hr ?_; (case hd => rfl); (case hg => rfl); (case hr => first | (go_simp; done) | (go_simp; rfl)); intro gv hg_gv w_gv hbox hb; have ng_ := Aside0.mk (by rw [hg_gv]; exact (below_size (by repeat (first | (with_reducible first | exact HB.out | apply below_alloc | apply pw_below_drewN | apply below_drew1) | exact HB.out))) : w.heap.size ≤ gv); have nb_ := Aside0.mk (below_step (by repeat (first | (with_reducible first | exact HB.out | apply below_alloc | apply pw_below_drewN | apply below_drew1) | exact HB.out)) hb); clear HB ; have HB := nb_; clear nb_  hb; have BKv := Aside0.mk hbox; have GBKv := ng_; clear hbox ng_ hg_gv) | ((with_reducible refine gate_dst (N := 4) rfl ?_); refine box_event ?hg (N := 4) ?hd (cs := #[.slice none 0 0, .slice none 0 0, .int .i64 0, .int .i64 0]) (t := 26) ?hr ?_; (case hd => rfl); (case hg => rfl); (case hr => first | (go_simp; done) | (go_simp; rfl)); intro gr hg_gr w_gr hbox hb; have ng_ := Aside0.mk (by rw [hg_gr]; exact (below_size (by repeat (first | (with_reducible first | exact HB.out | apply below_alloc | apply pw_below_drewN | apply below_drew1) | exact HB.out))) : w.heap.size ≤ gr); have nb_ := Aside0.mk (below_step (by repeat (first | (with_reducible first | exact HB.out | apply below_alloc | apply pw_below_drewN | apply below_drew1) | exact HB.out)) hb); have n0_ := Aside0.mk (blk_below (g := gv) (o := .cells #[.slice A0 l0.length c0, .slice A1 l1.length c1, .int .i64 o, .int .i64 b] 26 (0, 0)) (by (with_reducible repeat (first | refine blk_drewN ?_ _ | refine blk_drew ?_ | refine blk_alloc ?_ _)); exact BKv.out) hb); clear HB BKv; have HB := nb_; have BKv := n0_; clear nb_ n0_ hb; have BKr := Aside0.mk hbox; have GBKr := ng_; clear hbox ng_ hg_gr; have hcv0 : w_gr.cell? ⟨gv, 0, none⟩ = some (.slice A0 l0.length c0) := (blk_cell BKv.out 0).trans rfl; have hcv1 : w_gr.cell? ⟨gv, 1, none⟩ = some (.slice A1 l1.length c1) := (blk_cell BKv.out 1).trans rfl; have hcv2 : w_gr.cell? ⟨gv, 2, none⟩ = some (.int .i64 o) := (blk_cell BKv.out 2).trans rfl; have hcv3 : w_gr.cell? ⟨gv, 3, none⟩ = some (.int .i64 b) := (blk_cell BKv.out 3).trans rfl) | (go_at_call 79; refine (impl_ViewOk.calls k _ _ l0 _ _ l1 o b false _ ?s1 ?s2 ?s3 ?s4 HV.out).mono ?_; (case s1 => repeat (first | exact (Kd.C_below HR0.out HB.out) | (with_reducible refine Kd.C_alloc ?_ _) | (with_reducible refine Kd.C_drewN ?_ _) | (with_reducible refine Kd.C_drew ?_))); (case s2 => exact HC0.out); (case s3 => repeat (first | exact (Kd.C_below HR1.out HB.out) | (with_reducible refine Kd.C_alloc ?_ _) | (with_reducible refine Kd.C_drewN ?_ _) | (with_reducible refine Kd.C_drew ?_))); (case s4 => exact HC1.out); rintro e w1 ⟨rfl, hb⟩; have nb_ := Aside0.mk (below_step (by repeat (first | (with_reducible first | exact HB.out | apply below_alloc | apply pw_below_drewN | apply below_drew1) | exact HB.out)) hb); have n0_ := Aside0.mk (blk_below (g := gv) (o := .cells #[.slice A0 l0.length c0, .slice A1 l1.length c1, .int .i64 o, .int .i64 b] 26 (0, 0)) (by (with_reducible repeat (first | refine blk_drewN ?_ _ | refine blk_drew ?_ | refine blk_alloc ?_ _)); exact BKv.out) hb); have n1_ := Aside0.mk (blk_below (g := gr) (o := .cells #[.slice none 0 0, .slice none 0 0, .int .i64 0, .int .i64 0] 26 (0, 0)) (by (with_reducible repeat (first | refine blk_drewN ?_ _ | refine blk_drew ?_ | refine blk_alloc ?_ _)); exact BKr.out) hb); clear HB BKv BKr; have HB := nb_; have BKv := n0_; have BKr := n1_; clear nb_ n0_ n1_ hb; clear hcv0 hcv1 hcv2 hcv3; have hcr0 : w1.cell? ⟨gr, 0, none⟩ = some (.slice none 0 0) := (blk_cell BKr.out 0).trans rfl; have hcr1 : w1.cell? ⟨gr, 1, none⟩ = some (.slice none 0 0) := (blk_cell BKr.out 1).trans rfl; have hcr2 : w1.cell? ⟨gr, 2, none⟩ = some (.int .i64 0) := (blk_cell BKr.out 2).trans rfl; have hcr3 : w1.cell? ⟨gr, 3, none⟩ = some (.int .i64 0) := (blk_cell BKr.out 3).trans rfl; have hcrf0 := blk_frozen BKr.out 0; have hcrf1 := blk_frozen BKr.out 1; have hcrf2 := blk_frozen BKr.out 2; have hcrf3 := blk_frozen BKr.out 3))
  refine bodyPost_ret (results_cell_row rfl _ _ gr 26 #[.slice none 0 0, .slice none 0 0, .int .i64 0, .int .i64 0] (0, 0) _ rfl (by (with_reducible repeat (first | refine blk_drewN ?_ _ | refine blk_drew ?_)); refine blk_put (cs := #[.slice none 0 0, .slice none 0 0, .int .i64 0, .int .i64 0]) ?_ 3 _ rfl; (with_reducible repeat (first | refine blk_drewN ?_ _ | refine blk_drew ?_)); refine blk_put (cs := #[.slice none 0 0, .slice none 0 0, .int .i64 0, .int .i64 0]) ?_ 2 _ rfl; (with_reducible repeat (first | refine blk_drewN ?_ _ | refine blk_drew ?_)); refine blk_put (cs := #[.slice none 0 0, .slice none 0 0, .int .i64 0, .int .i64 0]) ?_ 1 _ rfl; (with_reducible repeat (first | refine blk_drewN ?_ _ | refine blk_drew ?_)); refine blk_put (cs := #[.slice none 0 0, .slice none 0 0, .int .i64 0, .int .i64 0]) ?_ 0 _ rfl; (with_reducible repeat (first | refine blk_drewN ?_ _ | refine blk_drew ?_)); exact BKr.out) Try.underlying26 rfl (by kernel_rfl)) rfl ?_
  exact ⟨rfl, by repeat (first | (with_reducible first | exact HB.out | apply below_alloc | apply pw_below_drewN | apply below_drew1 | refine below_set ?_ GBKr.out) | exact HB.out)⟩
set_option maxHeartbeats 8000000 in
set_option maxRecDepth 100000 in
theorem impl_turn.go (k B : Nat) (q1 q2 q3 : Nat) (A0 : Option Addr) (c0 : Nat) (l0 : List Int) (A1 : Option Addr) (c1 : Nat) (l1 : List Int) (o b : Int) (rb t2 : Bool) (m0 m1 : List Int) (m2 m3 : Int) (r0 r1 : List Int) (r2 r3 : Int) (w : World) (hB : B ≤ w.heap.size)
    (hr0 : Kd.C (Kd.int .i64) w A0 l0.length l0) (hc0 : l0.length ≤ c0) (hr1 : Kd.C (Kd.int .i64) w A1 l1.length l1) (hc1 : l1.length ≤ c1)
    (hv : impl_ViewOk.f k l0 l1 o b = some true) (hl0 : slices_Clone_int_int.f l0 = some l0) (hl1 : slices_Clone_int_int.f l1 = some l1)
    (hby : ∀ (W : World) (gw : Nat) (B0 B1 : Option Addr) (d0 d1 : Nat), Below w.heap.size w W → w.heap.size ≤ gw → W.heap[gw]? = some (.cells #[.slice B0 l0.length d0, .slice B1 l1.length d1, .int .i64 o, .int .i64 b] 26 (0, 0)) →
      Kd.R (Kd.int .i64) 3 W w.heap.size (fun k_ => some k_ ≠ (.slice B1 l1.length d1 : Value).ownBlock) (.slice B0 l0.length d0) l0 → Kd.R (Kd.int .i64) 3 W w.heap.size (fun k_ => some k_ ≠ (.slice B0 l0.length d0 : Value).ownBlock) (.slice B1 l1.length d1) l1 →
      Calls Try.prog 46 #[.pointer (some ⟨gw, 0, none⟩), .pointer (some ⟨q1, 0, none⟩), .pointer (some ⟨q2, 0, none⟩), .pointer (some ⟨q3, 0, none⟩)] W fun e W' => ∃ v0 v1 : Value, e = .returned (.bool rb) ∧ W'.heap[gw]? = some (.cells #[v0, v1, .int .i64 m2, .int .i64 m3] 26 (0, 0)) ∧ Kd.R (Kd.int .i64) 3 W' w.heap.size (fun k_ => some k_ ≠ (v1 : Value).ownBlock) v0 m0 ∧ Kd.R (Kd.int .i64) 3 W' w.heap.size (fun k_ => some k_ ≠ (v0 : Value).ownBlock) v1 m1 ∧
        (∀ (g : Nat) (cs : Array Value), g ≠ gw → W.heap[g]? = some (.cells cs 26 (0, 0)) → W'.heap[g]? = some (.cells cs 26 (0, 0))) ∧ W.heap.size ≤ W'.heap.size ∧ Below B w W')
    (hv2 : rb = true → impl_ViewOk.f k m0 m1 m2 m3 = some t2) (hres : (if rb = true then (if t2 = true then (m0, m1, m2, m3) else ([], [], 0, 0)) else ([], [], 0, 0)) = (r0, r1, r2, r3)) :
    Calls Try.prog 39 #[.agg #[.slice A0 l0.length c0, .slice A1 l1.length c1, .int .i64 o, .int .i64 b], .func (.func 46) #[] #[.pointer (some ⟨q1, 0, none⟩), .pointer (some ⟨q2, 0, none⟩), .pointer (some ⟨q3, 0, none⟩)]] w fun e w' => ∃ v0_ v1_ : Value, e = .returned (.agg #[v0_, v1_, .int .i64 r2, .int .i64 r3]) ∧ Kd.R (Kd.int .i64) 3 w' w.heap.size (fun k_ => some k_ ≠ (v1_ : Value).ownBlock) v0_ r0 ∧ Kd.R (Kd.int .i64) 3 w' w.heap.size (fun k_ => some k_ ≠ (v0_ : Value).ownBlock) v1_ r1 ∧ Below B w w' ∧ (∀ (g : Nat) (cs : Array Value), w.heap[g]? = some (.cells cs 26 (0, 0)) → w'.heap[g]? = some (.cells cs 26 (0, 0))) := by
  have hu26 := Try.underlying26
  have HR0 := Aside0.mk hr0
  have HC0 := Aside0.mk hc0
  have HR1 := Aside0.mk hr1
  have HC1 := Aside0.mk hc1
  have HV := Aside0.mk hv
  have HL0 := Aside0.mk hl0
  have HL1 := Aside0.mk hl1
  have HBY := Aside0.mk hby
  have HBS := Aside0.mk hB
  clear hr0 hc0 hr1 hc1 hv hl0 hl1 hby hB
  have HB := Aside0.mk (Below.refl w.heap.size w)
  go_enter Try.func39, Try.ntmps39
  go_upto_region 3 with (first | ((with_reducible refine gate_dst (N := 2) rfl ?_); refine box_event ?hg (N := 2) ?hd (cs := #[.slice A0 l0.length c0, .slice A1 l1.length c1, .int .i64 o, .int .i64 b]) (t := 26) ?hr ?_; (case hd => rfl); (case hg => rfl); (case hr => first | (go_simp; done) | (go_simp; rfl)); intro gv hg_gv w_gv hbox hb; have ng_ := Aside0.mk (by rw [hg_gv]; exact (below_size (by repeat (first | (with_reducible first | exact HB.out | apply below_alloc | apply pw_below_drewN | apply below_drew1) | exact HB.out))) : w.heap.size ≤ gv); have nb_ := Aside0.mk (below_step (by repeat (first | (with_reducible first | exact HB.out | apply below_alloc | apply pw_below_drewN | apply below_drew1) | exact HB.out)) hb); clear HB ; have HB := nb_; clear nb_  hb; have BKv := Aside0.mk hbox; have GBKv := ng_; clear hbox ng_ hg_gv) | ((with_reducible refine gate_dst (N := 4) rfl ?_); refine box_event ?hg (N := 4) ?hd (cs := #[.slice none 0 0, .slice none 0 0, .int .i64 0, .int .i64 0]) (t := 26) ?hr ?_; (case hd => rfl); (case hg => rfl); (case hr => first | (go_simp; done) | (go_simp; rfl)); intro gr hg_gr w_gr hbox hb; have ng_ := Aside0.mk (by rw [hg_gr]; exact (below_size (by repeat (first | (with_reducible first | exact HB.out | apply below_alloc | apply pw_below_drewN | apply below_drew1) | exact HB.out))) : w.heap.size ≤ gr); have nb_ := Aside0.mk (below_step (by repeat (first | (with_reducible first | exact HB.out | apply below_alloc | apply pw_below_drewN | apply below_drew1) | exact HB.out)) hb); have n0_ := Aside0.mk (blk_below (g := gv) (o := .cells #[.slice A0 l0.length c0, .slice A1 l1.length c1, .int .i64 o, .int .i64 b] 26 (0, 0)) (by (with_reducible repeat (first | refine blk_drewN ?_ _ | refine blk_drew ?_ | refine blk_alloc ?_ _)); exact BKv.out) hb); clear HB BKv; have HB := nb_; have BKv := n0_; clear nb_ n0_ hb; have BKr := Aside0.mk hbox; have GBKr := ng_; clear hbox ng_ hg_gr; have hcv0 : w_gr.cell? ⟨gv, 0, none⟩ = some (.slice A0 l0.length c0) := (blk_cell BKv.out 0).trans rfl; have hcv1 : w_gr.cell? ⟨gv, 1, none⟩ = some (.slice A1 l1.length c1) := (blk_cell BKv.out 1).trans rfl; have hcv2 : w_gr.cell? ⟨gv, 2, none⟩ = some (.int .i64 o) := (blk_cell BKv.out 2).trans rfl; have hcv3 : w_gr.cell? ⟨gv, 3, none⟩ = some (.int .i64 b) := (blk_cell BKv.out 3).trans rfl) | (go_at_call 79; refine (impl_ViewOk.calls k _ _ l0 _ _ l1 o b true _ ?s1 ?s2 ?s3 ?s4 HV.out).mono ?_; (case s1 => repeat (first | exact (Kd.C_below HR0.out HB.out) | (with_reducible refine Kd.C_alloc ?_ _) | (with_reducible refine Kd.C_drewN ?_ _) | (with_reducible refine Kd.C_drew ?_))); (case s2 => exact HC0.out); (case s3 => repeat (first | exact (Kd.C_below HR1.out HB.out) | (with_reducible refine Kd.C_alloc ?_ _) | (with_reducible refine Kd.C_drewN ?_ _) | (with_reducible refine Kd.C_drew ?_))); (case s4 => exact HC1.out); rintro e w1 ⟨rfl, hb⟩; have nb_ := Aside0.mk (below_step (by repeat (first | (with_reducible first | exact HB.out | apply below_alloc | apply pw_below_drewN | apply below_drew1) | exact HB.out)) hb); have n0_ := Aside0.mk (blk_below (g := gv) (o := .cells #[.slice A0 l0.length c0, .slice A1 l1.length c1, .int .i64 o, .int .i64 b] 26 (0, 0)) (by (with_reducible repeat (first | refine blk_drewN ?_ _ | refine blk_drew ?_ | refine blk_alloc ?_ _)); exact BKv.out) hb); have n1_ := Aside0.mk (blk_below (g := gr) (o := .cells #[.slice none 0 0, .slice none 0 0, .int .i64 0, .int .i64 0] 26 (0, 0)) (by (with_reducible repeat (first | refine blk_drewN ?_ _ | refine blk_drew ?_ | refine blk_alloc ?_ _)); exact BKr.out) hb); clear HB BKv BKr; have HB := nb_; have BKv := n0_; have BKr := n1_; clear nb_ n0_ n1_ hb; clear hcv0 hcv1 hcv2 hcv3; have hcv0 : w1.cell? ⟨gv, 0, none⟩ = some (.slice A0 l0.length c0) := (blk_cell BKv.out 0).trans rfl; have hcv1 : w1.cell? ⟨gv, 1, none⟩ = some (.slice A1 l1.length c1) := (blk_cell BKv.out 1).trans rfl; have hcv2 : w1.cell? ⟨gv, 2, none⟩ = some (.int .i64 o) := (blk_cell BKv.out 2).trans rfl; have hcv3 : w1.cell? ⟨gv, 3, none⟩ = some (.int .i64 b) := (blk_cell BKv.out 3).trans rfl))
  (try simp only [Act.put, List.setIfInBounds_toArray, List.set_cons_zero, List.set_cons_succ])
  go_cut [5] (fun v5 wc => ∃ (gw : Nat) (B0 B1 : Option Addr) (d0 d1 : Nat), v5 = .pointer (some ⟨gw, 0, none⟩) ∧ Aside0 (wc.heap[gw]? = some (.cells #[.slice B0 l0.length d0, .slice B1 l1.length d1, .int .i64 o, .int .i64 b] 26 (0, 0))) ∧ Aside0 (Kd.R (Kd.int .i64) 3 wc w.heap.size (fun k_ => some k_ ≠ (.slice B1 l1.length d1 : Value).ownBlock) (.slice B0 l0.length d0) l0) ∧ Aside0 (Kd.R (Kd.int .i64) 3 wc w.heap.size (fun k_ => some k_ ≠ (.slice B0 l0.length d0 : Value).ownBlock) (.slice B1 l1.length d1) l1) ∧ Aside0 (w.heap.size ≤ gw) ∧ Aside0 (gw ≠ gr) ∧ Aside0 (wc.heap[gr]? = some (.cells #[.slice none 0 0, .slice none 0 0, .int .i64 0, .int .i64 0] 26 (0, 0))) ∧ Aside0 (Below w.heap.size w wc))
  case first =>
    go_region_held3 (fun w' => w'.cell? ⟨gv, 0, none⟩ = some (.slice A0 l0.length c0) ∧ w'.cell? ⟨gv, 1, none⟩ = some (.slice A1 l1.length c1) ∧ w'.cell? ⟨gv, 2, none⟩ = some (.int .i64 o) ∧ w'.cell? ⟨gv, 3, none⟩ = some (.int .i64 b)) (first | (exact ⟨(blk_cell (by (with_reducible repeat (first | refine blk_drewN ?_ _ | refine blk_drew ?_ | refine blk_alloc ?_ _)); exact BKv.out) 0).trans rfl, (blk_cell (by (with_reducible repeat (first | refine blk_drewN ?_ _ | refine blk_drew ?_ | refine blk_alloc ?_ _)); exact BKv.out) 1).trans rfl, (blk_cell (by (with_reducible repeat (first | refine blk_drewN ?_ _ | refine blk_drew ?_ | refine blk_alloc ?_ _)); exact BKv.out) 2).trans rfl, (blk_cell (by (with_reducible repeat (first | refine blk_drewN ?_ _ | refine blk_drew ?_ | refine blk_alloc ?_ _)); exact BKv.out) 3).trans rfl⟩) | (exact ⟨(blk_cell (blk_far (p := ⟨_, 3, none⟩) (blk_far (p := ⟨_, 2, none⟩) (blk_far (p := ⟨_, 1, none⟩) (blk_far (p := ⟨_, 0, none⟩) BKv.out HZN.out.1 _) HZN.out.1 _) HZN.out.1 _) HZN.out.1 _) 0).trans rfl, (blk_cell (blk_far (p := ⟨_, 3, none⟩) (blk_far (p := ⟨_, 2, none⟩) (blk_far (p := ⟨_, 1, none⟩) (blk_far (p := ⟨_, 0, none⟩) BKv.out HZN.out.1 _) HZN.out.1 _) HZN.out.1 _) HZN.out.1 _) 1).trans rfl, (blk_cell (blk_far (p := ⟨_, 3, none⟩) (blk_far (p := ⟨_, 2, none⟩) (blk_far (p := ⟨_, 1, none⟩) (blk_far (p := ⟨_, 0, none⟩) BKv.out HZN.out.1 _) HZN.out.1 _) HZN.out.1 _) HZN.out.1 _) 2).trans rfl, (blk_cell (blk_far (p := ⟨_, 3, none⟩) (blk_far (p := ⟨_, 2, none⟩) (blk_far (p := ⟨_, 1, none⟩) (blk_far (p := ⟨_, 0, none⟩) BKv.out HZN.out.1 _) HZN.out.1 _) HZN.out.1 _) HZN.out.1 _) 3).trans rfl⟩) | go_keep) (first | (go_at_call_of 80 (Value.slice A0 l0.length c0); refine (slices_Clone_int_int.calls _ _ l0 l0 _ ?s1 HC0.out HL0.out).mono ?_; (case s1 => repeat (first | exact (Kd.C_below HR0.out HB.out) | (with_reducible refine Kd.C_alloc ?_ _) | (with_reducible refine Kd.C_drewN ?_ _) | (with_reducible refine Kd.C_drew ?_))); rintro e w2 ⟨v0, rfl, ho0, hb⟩; obtain ⟨B0, d0, rfl⟩ := Kd.R_slice ho0; (first | (have hz_ := blk_below (o := .cells #[.slice none 0 0, .slice none 0 0, .int .i64 0, .int .i64 0] 26 (0, 0)) HZ.out hb; clear HZ; have HZ := Aside0.mk hz_; clear hz_) | (have hz_ := blk_below (o := .cells #[.slice none 0 0, .slice none 0 0, .int .i64 0, .int .i64 0] 26 (0, 0)) (by (with_reducible repeat (first | refine blk_drewN ?_ _ | refine blk_drew ?_)); exact heap_alloc_new _ _) hb; have hzn_ := And.intro (Nat.ne_of_lt (blk_lt BKv.out)) (Nat.ne_of_lt (blk_lt BKr.out)); have hzl_ := below_size HB.out; have HZ := Aside0.mk hz_; have HZN := Aside0.mk hzn_; have HZL := Aside0.mk hzl_; clear hz_ hzn_ hzl_) | skip); have nb_ := Aside0.mk (below_step (by repeat (first | (with_reducible first | exact HB.out | apply below_alloc | apply pw_below_drewN | apply below_drew1) | exact HB.out)) hb); have n0_ := Aside0.mk (blk_below (g := gv) (o := .cells #[.slice A0 l0.length c0, .slice A1 l1.length c1, .int .i64 o, .int .i64 b] 26 (0, 0)) (by (with_reducible repeat (first | refine blk_drewN ?_ _ | refine blk_drew ?_ | refine blk_alloc ?_ _)); exact BKv.out) hb); have n1_ := Aside0.mk (blk_below (g := gr) (o := .cells #[.slice none 0 0, .slice none 0 0, .int .i64 0, .int .i64 0] 26 (0, 0)) (by (with_reducible repeat (first | refine blk_drewN ?_ _ | refine blk_drew ?_ | refine blk_alloc ?_ _)); exact BKr.out) hb); have no_ := Aside0.mk (Kd.R_lower ho0 (below_size (by repeat (first | (with_reducible first | exact HB.out | apply below_alloc | apply pw_below_drewN | apply below_drew1) | exact HB.out)))); clear ho0 ; have HO0 := no_; clear HB BKv BKr; have HB := nb_; have BKv := n0_; have BKr := n1_; clear nb_ n0_ n1_ hb) | (go_at_call_of 80 (Value.slice A1 l1.length c1); refine (slices_Clone_int_int.calls _ _ l1 l1 _ ?s1 HC1.out HL1.out).mono ?_; (case s1 => repeat (first | exact (Kd.C_below HR1.out HB.out) | (with_reducible refine Kd.C_alloc ?_ _) | (with_reducible refine Kd.C_drewN ?_ _) | (with_reducible refine Kd.C_drew ?_))); rintro e w3 ⟨v1, rfl, ho1, hb⟩; obtain ⟨B1, d1, rfl⟩ := Kd.R_slice ho1; (first | (have hz_ := blk_below (o := .cells #[.slice none 0 0, .slice none 0 0, .int .i64 0, .int .i64 0] 26 (0, 0)) HZ.out hb; clear HZ; have HZ := Aside0.mk hz_; clear hz_) | (have hz_ := blk_below (o := .cells #[.slice none 0 0, .slice none 0 0, .int .i64 0, .int .i64 0] 26 (0, 0)) (by (with_reducible repeat (first | refine blk_drewN ?_ _ | refine blk_drew ?_)); exact heap_alloc_new _ _) hb; have hzn_ := And.intro (Nat.ne_of_lt (blk_lt BKv.out)) (Nat.ne_of_lt (blk_lt BKr.out)); have hzl_ := below_size HB.out; have HZ := Aside0.mk hz_; have HZN := Aside0.mk hzn_; have HZL := Aside0.mk hzl_; clear hz_ hzn_ hzl_) | skip); have nb_ := Aside0.mk (below_step (by repeat (first | (with_reducible first | exact HB.out | apply below_alloc | apply pw_below_drewN | apply below_drew1) | exact HB.out)) hb); have n0_ := Aside0.mk (blk_below (g := gv) (o := .cells #[.slice A0 l0.length c0, .slice A1 l1.length c1, .int .i64 o, .int .i64 b] 26 (0, 0)) (by (with_reducible repeat (first | refine blk_drewN ?_ _ | refine blk_drew ?_ | refine blk_alloc ?_ _)); exact BKv.out) hb); have n1_ := Aside0.mk (blk_below (g := gr) (o := .cells #[.slice none 0 0, .slice none 0 0, .int .i64 0, .int .i64 0] 26 (0, 0)) (by (with_reducible repeat (first | refine blk_drewN ?_ _ | refine blk_drew ?_ | refine blk_alloc ?_ _)); exact BKr.out) hb); have nr_ := Aside0.mk (Kd.R_elder (by (with_reducible repeat (first | apply Kd.R_alloc | apply Kd.R_drewN | apply Kd.R_drew)); exact HO0.out) ho1 hb); replace ho1 := Kd.R_newR ho1 (by (with_reducible repeat (first | apply Kd.R_alloc | apply Kd.R_drewN | apply Kd.R_drew)); exact HO0.out); clear HO0; have HO0 := nr_; have no_ := Aside0.mk (Kd.R_lower ho1 (below_size (by repeat (first | (with_reducible first | exact HB.out | apply below_alloc | apply pw_below_drewN | apply below_drew1) | exact HB.out)))); clear ho1 ; have HO1 := no_; clear HB BKv BKr; have HB := nb_; have BKv := n0_; have BKr := n1_; clear nb_ n0_ n1_ hb; (try (have hz0 : w3.cell? ⟨_, 0, none⟩ = some (Value.slice none 0 0) := (blk_cell HZ.out 0).trans rfl; have hzf0 := blk_frozen HZ.out 0; have hz1 : w3.cell? ⟨_, 1, none⟩ = some (Value.slice none 0 0) := (blk_cell HZ.out 1).trans rfl; have hzf1 := blk_frozen HZ.out 1; have hz2 : w3.cell? ⟨_, 2, none⟩ = some (Value.int .i64 0) := (blk_cell HZ.out 2).trans rfl; have hzf2 := blk_frozen HZ.out 2; have hz3 : w3.cell? ⟨_, 3, none⟩ = some (Value.int .i64 0) := (blk_cell HZ.out 3).trans rfl; have hzf3 := blk_frozen HZ.out 3))))
    · go_wp2
      go_meet
      case rel => exact ⟨w3.heap.size, B0, B1, d0, d1, rfl, ⟨by (with_reducible repeat (first | refine blk_drewN ?_ _ | refine blk_drew ?_)); exact heap_alloc_new _ _⟩, ⟨by (with_reducible repeat (first | apply Kd.R_alloc | apply Kd.R_drewN | apply Kd.R_drew)); exact Kd.R_mono HO0.out (fun _ hk => hk.2)⟩, ⟨by (with_reducible repeat (first | apply Kd.R_alloc | apply Kd.R_drewN | apply Kd.R_drew)); exact Kd.R_mono HO1.out (fun _ hk => hk.2)⟩, ⟨below_size HB.out⟩, ⟨(Nat.ne_of_lt (blk_lt BKr.out)).symm⟩, ⟨(by (with_reducible repeat (first | refine blk_drewN ?_ _ | refine blk_drew ?_ | refine blk_alloc ?_ _)); exact BKr.out)⟩, ⟨by repeat (first | (with_reducible first | exact HB.out | apply below_alloc | apply pw_below_drewN | apply below_drew1) | exact HB.out)⟩⟩
    all_goals
      go_wp2
      go_meet
      case rel => exact ⟨_, B0, B1, d0, d1, rfl, ⟨by (with_reducible repeat (first | refine blk_drewN ?_ _ | refine blk_drew ?_)); refine blk_put (cs := #[.slice B0 l0.length d0, .slice B1 l1.length d1, .int .i64 o, .int .i64 0]) ?_ 3 _ rfl; refine blk_put (cs := #[.slice B0 l0.length d0, .slice B1 l1.length d1, .int .i64 0, .int .i64 0]) ?_ 2 _ rfl; refine blk_put (cs := #[.slice B0 l0.length d0, .slice none 0 0, .int .i64 0, .int .i64 0]) ?_ 1 _ rfl; refine blk_put (cs := #[.slice none 0 0, .slice none 0 0, .int .i64 0, .int .i64 0]) ?_ 0 _ rfl; exact HZ.out⟩, ⟨by (with_reducible repeat (first | apply Kd.R_alloc | apply Kd.R_drewN | apply Kd.R_drew)); exact Kd.R_mono (Kd.R_far (p := ⟨_, 3, none⟩) (Kd.R_far (p := ⟨_, 2, none⟩) (Kd.R_far (p := ⟨_, 1, none⟩) (Kd.R_far (p := ⟨_, 0, none⟩) (Kd.R_types HO0.out HZ.out (by decide)) (fun _ hk => hk.2) _) (fun _ hk => hk.2) _) (fun _ hk => hk.2) _) (fun _ hk => hk.2) _) (fun _ hk => hk.1.2)⟩, ⟨by (with_reducible repeat (first | apply Kd.R_alloc | apply Kd.R_drewN | apply Kd.R_drew)); exact Kd.R_mono (Kd.R_far (p := ⟨_, 3, none⟩) (Kd.R_far (p := ⟨_, 2, none⟩) (Kd.R_far (p := ⟨_, 1, none⟩) (Kd.R_far (p := ⟨_, 0, none⟩) (Kd.R_types HO1.out HZ.out (by decide)) (fun _ hk => hk.2) _) (fun _ hk => hk.2) _) (fun _ hk => hk.2) _) (fun _ hk => hk.2) _) (fun _ hk => hk.1.2)⟩, ⟨HZL.out⟩, ⟨HZN.out.2.symm⟩, ⟨by (with_reducible repeat (first | refine blk_drewN ?_ _ | refine blk_drew ?_)); exact blk_far (p := ⟨_, 3, none⟩) (blk_far (p := ⟨_, 2, none⟩) (blk_far (p := ⟨_, 1, none⟩) (blk_far (p := ⟨_, 0, none⟩) BKr.out HZN.out.2 _) HZN.out.2 _) HZN.out.2 _) HZN.out.2 _⟩, ⟨by repeat (first | (with_reducible first | exact HB.out | apply below_alloc | apply pw_below_drewN | apply below_drew1 | refine below_set ?_ HZL.out) | exact HB.out)⟩⟩
  case rest =>
    obtain ⟨gw, B0, B1, d0, d1, rfl, BKw, HO0, HO1, GW, GWR, BKr, HB⟩ := hcut
    try clear hcv0 hcv1 hcv2 hcv3
    have GRB := Aside0.mk (Nat.le_trans HBS.out GBKr.out)
    cases rb with
    | false =>
      obtain ⟨rfl, rfl, rfl, rfl⟩ : r0 = [] ∧ r1 = [] ∧ r2 = 0 ∧ r3 = 0 := by simpa using hres.symm
      go_wp2_with (first | (go_at_call 46; refine (HBY.out _ gw B0 B1 d0 d1 HB.out GW.out BKw.out HO0.out HO1.out).mono ?_; rintro e w4 ⟨v0, v1, rfl, hw, ho0, ho1, hk, hsz, hbb⟩; obtain ⟨E0, f0, rfl⟩ := Kd.R_slice ho0; obtain ⟨E1, f1, rfl⟩ := Kd.R_slice ho1; have n0_ := Aside0.mk (hk gr _ GWR.out.symm BKr.out); have h26_ : ∀ (g : Nat) (cs : Array Value), w.heap[g]? = some (.cells cs 26 (0, 0)) → w4.heap[g]? = some (.cells cs 26 (0, 0)) := fun g cs h_ => hk g cs (by have := blk_lt h_; have := GW.out; omega) (blk_below h_ HB.out); have H26 := Aside0.mk h26_; clear h26_; have HSZ := Aside0.mk (Nat.le_trans (Nat.le_trans HBS.out (below_size HB.out)) hsz); clear HB BKw HO0 HO1 BKr hk hsz; have HBB := Aside0.mk hbb; have BKw := Aside0.mk hw; have HO0 := Aside0.mk ho0; have HO1 := Aside0.mk ho1; have BKr := n0_; clear n0_ hbb hw ho0 ho1; have hcw0 : w4.cell? ⟨gw, 0, none⟩ = some (.slice E0 m0.length f0) := (blk_cell BKw.out 0).trans rfl; have hcw1 : w4.cell? ⟨gw, 1, none⟩ = some (.slice E1 m1.length f1) := (blk_cell BKw.out 1).trans rfl; have hcw2 : w4.cell? ⟨gw, 2, none⟩ = some (.int .i64 m2) := (blk_cell BKw.out 2).trans rfl; have hcw3 : w4.cell? ⟨gw, 3, none⟩ = some (.int .i64 m3) := (blk_cell BKw.out 3).trans rfl; have hcr0 : w4.cell? ⟨gr, 0, none⟩ = some (.slice none 0 0) := (blk_cell BKr.out 0).trans rfl; have hcr1 : w4.cell? ⟨gr, 1, none⟩ = some (.slice none 0 0) := (blk_cell BKr.out 1).trans rfl; have hcr2 : w4.cell? ⟨gr, 2, none⟩ = some (.int .i64 0) := (blk_cell BKr.out 2).trans rfl; have hcr3 : w4.cell? ⟨gr, 3, none⟩ = some (.int .i64 0) := (blk_cell BKr.out 3).trans rfl; have hcrf0 := blk_frozen BKr.out 0; have hcrf1 := blk_frozen BKr.out 1; have hcrf2 := blk_frozen BKr.out 2; have hcrf3 := blk_frozen BKr.out 3))
      refine bodyPost_ret (results_cell_row rfl _ _ gr 26 #[.slice none 0 0, .slice none 0 0, .int .i64 0, .int .i64 0] (0, 0) _ rfl (by (with_reducible repeat (first | refine blk_drewN ?_ _ | refine blk_drew ?_)); refine blk_put (cs := #[.slice none 0 0, .slice none 0 0, .int .i64 0, .int .i64 0]) ?_ 3 _ rfl; (with_reducible repeat (first | refine blk_drewN ?_ _ | refine blk_drew ?_)); refine blk_put (cs := #[.slice none 0 0, .slice none 0 0, .int .i64 0, .int .i64 0]) ?_ 2 _ rfl; (with_reducible repeat (first | refine blk_drewN ?_ _ | refine blk_drew ?_)); refine blk_put (cs := #[.slice none 0 0, .slice none 0 0, .int .i64 0, .int .i64 0]) ?_ 1 _ rfl; (with_reducible repeat (first | refine blk_drewN ?_ _ | refine blk_drew ?_)); refine blk_put (cs := #[.slice none 0 0, .slice none 0 0, .int .i64 0, .int .i64 0]) ?_ 0 _ rfl; (with_reducible repeat (first | refine blk_drewN ?_ _ | refine blk_drew ?_)); exact BKr.out) Try.underlying26 rfl (by kernel_rfl)) rfl ?_
      exact ⟨_, _, rfl, Kd.R_nil _ _ _ _ _, Kd.R_nil _ _ _ _ _, by (with_reducible repeat (first | exact HBB.out | apply pw_below_drewN | apply below_drew | (refine Below.setCell ?_ GRB.out _))), fun g cs h_ => by have hne_ : g ≠ gr := (by have := blk_lt h_; have := GBKr.out; omega); (with_reducible repeat (first | refine blk_drewN ?_ _ | refine blk_drew ?_ | refine blk_far ?_ hne_ _)); exact H26.out g cs h_⟩
    | true =>
      have HV2 := Aside0.mk (hv2 rfl)
      clear hv2
      cases t2 with
      | false =>
      obtain ⟨rfl, rfl, rfl, rfl⟩ : r0 = [] ∧ r1 = [] ∧ r2 = 0 ∧ r3 = 0 := by simpa using hres.symm
      go_wp2_with (first | (go_at_call 46; refine (HBY.out _ gw B0 B1 d0 d1 HB.out GW.out BKw.out HO0.out HO1.out).mono ?_; rintro e w4 ⟨v0, v1, rfl, hw, ho0, ho1, hk, hsz, hbb⟩; obtain ⟨E0, f0, rfl⟩ := Kd.R_slice ho0; obtain ⟨E1, f1, rfl⟩ := Kd.R_slice ho1; have n0_ := Aside0.mk (hk gr _ GWR.out.symm BKr.out); have h26_ : ∀ (g : Nat) (cs : Array Value), w.heap[g]? = some (.cells cs 26 (0, 0)) → w4.heap[g]? = some (.cells cs 26 (0, 0)) := fun g cs h_ => hk g cs (by have := blk_lt h_; have := GW.out; omega) (blk_below h_ HB.out); have H26 := Aside0.mk h26_; clear h26_; have HSZ := Aside0.mk (Nat.le_trans (Nat.le_trans HBS.out (below_size HB.out)) hsz); clear HB BKw HO0 HO1 BKr hk hsz; have HBB := Aside0.mk hbb; have BKw := Aside0.mk hw; have HO0 := Aside0.mk ho0; have HO1 := Aside0.mk ho1; have BKr := n0_; clear n0_ hbb hw ho0 ho1; have hcw0 : w4.cell? ⟨gw, 0, none⟩ = some (.slice E0 m0.length f0) := (blk_cell BKw.out 0).trans rfl; have hcw1 : w4.cell? ⟨gw, 1, none⟩ = some (.slice E1 m1.length f1) := (blk_cell BKw.out 1).trans rfl; have hcw2 : w4.cell? ⟨gw, 2, none⟩ = some (.int .i64 m2) := (blk_cell BKw.out 2).trans rfl; have hcw3 : w4.cell? ⟨gw, 3, none⟩ = some (.int .i64 m3) := (blk_cell BKw.out 3).trans rfl; have hcr0 : w4.cell? ⟨gr, 0, none⟩ = some (.slice none 0 0) := (blk_cell BKr.out 0).trans rfl; have hcr1 : w4.cell? ⟨gr, 1, none⟩ = some (.slice none 0 0) := (blk_cell BKr.out 1).trans rfl; have hcr2 : w4.cell? ⟨gr, 2, none⟩ = some (.int .i64 0) := (blk_cell BKr.out 2).trans rfl; have hcr3 : w4.cell? ⟨gr, 3, none⟩ = some (.int .i64 0) := (blk_cell BKr.out 3).trans rfl; have hcrf0 := blk_frozen BKr.out 0; have hcrf1 := blk_frozen BKr.out 1; have hcrf2 := blk_frozen BKr.out 2; have hcrf3 := blk_frozen BKr.out 3) | (go_at_call 79; refine (impl_ViewOk.calls k _ _ m0 _ _ m1 m2 m3 _ _ ?s1 ?s2 ?s3 ?s4 HV2.out).mono ?_; (case s1 => exact (Kd.R_reads' HO0.out).2.2); (case s2 => exact (Kd.R_reads' HO0.out).2.1); (case s3 => exact (Kd.R_reads' HO1.out).2.2); (case s4 => exact (Kd.R_reads' HO1.out).2.1); rintro e w5 ⟨rfl, hb⟩; have n0_ := Aside0.mk (Kd.R_below HO0.out hb); have n1_ := Aside0.mk (Kd.R_below HO1.out hb); have n2_ := Aside0.mk (blk_below BKw.out hb); have n3_ := Aside0.mk (blk_below BKr.out hb); have n4_ := Aside0.mk (below_then HBB.out HSZ.out hb); have n5_ : Aside0 (∀ (g : Nat) (cs : Array Value), w.heap[g]? = some (.cells cs 26 (0, 0)) → w5.heap[g]? = some (.cells cs 26 (0, 0))) := ⟨fun g cs h_ => blk_below (H26.out g cs h_) hb⟩; clear H26; have H26 := n5_; clear n5_; clear HO0 HO1 BKw BKr HBB hb hcw0 hcw1 hcw2 hcw3 hcr0 hcr1 hcr2 hcr3 hcrf0 hcrf1 hcrf2 hcrf3; have HO0 := n0_; have HO1 := n1_; have BKw := n2_; have BKr := n3_; have HBB := n4_; clear n0_ n1_ n2_ n3_ n4_; have hcw0 : w5.cell? ⟨gw, 0, none⟩ = some (.slice E0 m0.length f0) := (blk_cell BKw.out 0).trans rfl; have hcw1 : w5.cell? ⟨gw, 1, none⟩ = some (.slice E1 m1.length f1) := (blk_cell BKw.out 1).trans rfl; have hcw2 : w5.cell? ⟨gw, 2, none⟩ = some (.int .i64 m2) := (blk_cell BKw.out 2).trans rfl; have hcw3 : w5.cell? ⟨gw, 3, none⟩ = some (.int .i64 m3) := (blk_cell BKw.out 3).trans rfl; have hcr0 : w5.cell? ⟨gr, 0, none⟩ = some (.slice none 0 0) := (blk_cell BKr.out 0).trans rfl; have hcr1 : w5.cell? ⟨gr, 1, none⟩ = some (.slice none 0 0) := (blk_cell BKr.out 1).trans rfl; have hcr2 : w5.cell? ⟨gr, 2, none⟩ = some (.int .i64 0) := (blk_cell BKr.out 2).trans rfl; have hcr3 : w5.cell? ⟨gr, 3, none⟩ = some (.int .i64 0) := (blk_cell BKr.out 3).trans rfl; have hcrf0 := blk_frozen BKr.out 0; have hcrf1 := blk_frozen BKr.out 1; have hcrf2 := blk_frozen BKr.out 2; have hcrf3 := blk_frozen BKr.out 3))
      refine bodyPost_ret (results_cell_row rfl _ _ gr 26 #[.slice none 0 0, .slice none 0 0, .int .i64 0, .int .i64 0] (0, 0) _ rfl (by (with_reducible repeat (first | refine blk_drewN ?_ _ | refine blk_drew ?_)); refine blk_put (cs := #[.slice none 0 0, .slice none 0 0, .int .i64 0, .int .i64 0]) ?_ 3 _ rfl; (with_reducible repeat (first | refine blk_drewN ?_ _ | refine blk_drew ?_)); refine blk_put (cs := #[.slice none 0 0, .slice none 0 0, .int .i64 0, .int .i64 0]) ?_ 2 _ rfl; (with_reducible repeat (first | refine blk_drewN ?_ _ | refine blk_drew ?_)); refine blk_put (cs := #[.slice none 0 0, .slice none 0 0, .int .i64 0, .int .i64 0]) ?_ 1 _ rfl; (with_reducible repeat (first | refine blk_drewN ?_ _ | refine blk_drew ?_)); refine blk_put (cs := #[.slice none 0 0, .slice none 0 0, .int .i64 0, .int .i64 0]) ?_ 0 _ rfl; (with_reducible repeat (first | refine blk_drewN ?_ _ | refine blk_drew ?_)); exact BKr.out) Try.underlying26 rfl (by kernel_rfl)) rfl ?_
      exact ⟨_, _, rfl, Kd.R_nil _ _ _ _ _, Kd.R_nil _ _ _ _ _, by (with_reducible repeat (first | exact HBB.out | apply pw_below_drewN | apply below_drew | (refine Below.setCell ?_ GRB.out _))), fun g cs h_ => by have hne_ : g ≠ gr := (by have := blk_lt h_; have := GBKr.out; omega); (with_reducible repeat (first | refine blk_drewN ?_ _ | refine blk_drew ?_ | refine blk_far ?_ hne_ _)); exact H26.out g cs h_⟩
      | true =>
      obtain ⟨rfl, rfl, rfl, rfl⟩ : m0 = r0 ∧ m1 = r1 ∧ m2 = r2 ∧ m3 = r3 := by simpa using hres
      go_wp2_with (first | (go_at_call 46; refine (HBY.out _ gw B0 B1 d0 d1 HB.out GW.out BKw.out HO0.out HO1.out).mono ?_; rintro e w4 ⟨v0, v1, rfl, hw, ho0, ho1, hk, hsz, hbb⟩; obtain ⟨E0, f0, rfl⟩ := Kd.R_slice ho0; obtain ⟨E1, f1, rfl⟩ := Kd.R_slice ho1; have n0_ := Aside0.mk (hk gr _ GWR.out.symm BKr.out); have h26_ : ∀ (g : Nat) (cs : Array Value), w.heap[g]? = some (.cells cs 26 (0, 0)) → w4.heap[g]? = some (.cells cs 26 (0, 0)) := fun g cs h_ => hk g cs (by have := blk_lt h_; have := GW.out; omega) (blk_below h_ HB.out); have H26 := Aside0.mk h26_; clear h26_; have HSZ := Aside0.mk (Nat.le_trans (Nat.le_trans HBS.out (below_size HB.out)) hsz); clear HB BKw HO0 HO1 BKr hk hsz; have HBB := Aside0.mk hbb; have BKw := Aside0.mk hw; have HO0 := Aside0.mk ho0; have HO1 := Aside0.mk ho1; have BKr := n0_; clear n0_ hbb hw ho0 ho1; have hcw0 : w4.cell? ⟨gw, 0, none⟩ = some (.slice E0 m0.length f0) := (blk_cell BKw.out 0).trans rfl; have hcw1 : w4.cell? ⟨gw, 1, none⟩ = some (.slice E1 m1.length f1) := (blk_cell BKw.out 1).trans rfl; have hcw2 : w4.cell? ⟨gw, 2, none⟩ = some (.int .i64 m2) := (blk_cell BKw.out 2).trans rfl; have hcw3 : w4.cell? ⟨gw, 3, none⟩ = some (.int .i64 m3) := (blk_cell BKw.out 3).trans rfl; have hcr0 : w4.cell? ⟨gr, 0, none⟩ = some (.slice none 0 0) := (blk_cell BKr.out 0).trans rfl; have hcr1 : w4.cell? ⟨gr, 1, none⟩ = some (.slice none 0 0) := (blk_cell BKr.out 1).trans rfl; have hcr2 : w4.cell? ⟨gr, 2, none⟩ = some (.int .i64 0) := (blk_cell BKr.out 2).trans rfl; have hcr3 : w4.cell? ⟨gr, 3, none⟩ = some (.int .i64 0) := (blk_cell BKr.out 3).trans rfl; have hcrf0 := blk_frozen BKr.out 0; have hcrf1 := blk_frozen BKr.out 1; have hcrf2 := blk_frozen BKr.out 2; have hcrf3 := blk_frozen BKr.out 3) | (go_at_call 79; refine (impl_ViewOk.calls k _ _ m0 _ _ m1 m2 m3 _ _ ?s1 ?s2 ?s3 ?s4 HV2.out).mono ?_; (case s1 => exact (Kd.R_reads' HO0.out).2.2); (case s2 => exact (Kd.R_reads' HO0.out).2.1); (case s3 => exact (Kd.R_reads' HO1.out).2.2); (case s4 => exact (Kd.R_reads' HO1.out).2.1); rintro e w5 ⟨rfl, hb⟩; have n0_ := Aside0.mk (Kd.R_below HO0.out hb); have n1_ := Aside0.mk (Kd.R_below HO1.out hb); have n2_ := Aside0.mk (blk_below BKw.out hb); have n3_ := Aside0.mk (blk_below BKr.out hb); have n4_ := Aside0.mk (below_then HBB.out HSZ.out hb); have n5_ : Aside0 (∀ (g : Nat) (cs : Array Value), w.heap[g]? = some (.cells cs 26 (0, 0)) → w5.heap[g]? = some (.cells cs 26 (0, 0))) := ⟨fun g cs h_ => blk_below (H26.out g cs h_) hb⟩; clear H26; have H26 := n5_; clear n5_; clear HO0 HO1 BKw BKr HBB hb hcw0 hcw1 hcw2 hcw3 hcr0 hcr1 hcr2 hcr3 hcrf0 hcrf1 hcrf2 hcrf3; have HO0 := n0_; have HO1 := n1_; have BKw := n2_; have BKr := n3_; have HBB := n4_; clear n0_ n1_ n2_ n3_ n4_; have hcw0 : w5.cell? ⟨gw, 0, none⟩ = some (.slice E0 m0.length f0) := (blk_cell BKw.out 0).trans rfl; have hcw1 : w5.cell? ⟨gw, 1, none⟩ = some (.slice E1 m1.length f1) := (blk_cell BKw.out 1).trans rfl; have hcw2 : w5.cell? ⟨gw, 2, none⟩ = some (.int .i64 m2) := (blk_cell BKw.out 2).trans rfl; have hcw3 : w5.cell? ⟨gw, 3, none⟩ = some (.int .i64 m3) := (blk_cell BKw.out 3).trans rfl; have hcr0 : w5.cell? ⟨gr, 0, none⟩ = some (.slice none 0 0) := (blk_cell BKr.out 0).trans rfl; have hcr1 : w5.cell? ⟨gr, 1, none⟩ = some (.slice none 0 0) := (blk_cell BKr.out 1).trans rfl; have hcr2 : w5.cell? ⟨gr, 2, none⟩ = some (.int .i64 0) := (blk_cell BKr.out 2).trans rfl; have hcr3 : w5.cell? ⟨gr, 3, none⟩ = some (.int .i64 0) := (blk_cell BKr.out 3).trans rfl; have hcrf0 := blk_frozen BKr.out 0; have hcrf1 := blk_frozen BKr.out 1; have hcrf2 := blk_frozen BKr.out 2; have hcrf3 := blk_frozen BKr.out 3))
      refine bodyPost_ret (results_cell_row rfl _ _ gr 26 #[.slice E0 m0.length f0, .slice E1 m1.length f1, .int .i64 m2, .int .i64 m3] (0, 0) _ rfl (by (with_reducible repeat (first | refine blk_drewN ?_ _ | refine blk_drew ?_)); refine blk_put (cs := #[.slice E0 m0.length f0, .slice E1 m1.length f1, .int .i64 m2, .int .i64 0]) ?_ 3 _ rfl; (with_reducible repeat (first | refine blk_drewN ?_ _ | refine blk_drew ?_)); refine blk_put (cs := #[.slice E0 m0.length f0, .slice E1 m1.length f1, .int .i64 0, .int .i64 0]) ?_ 2 _ rfl; (with_reducible repeat (first | refine blk_drewN ?_ _ | refine blk_drew ?_)); refine blk_put (cs := #[.slice E0 m0.length f0, .slice none 0 0, .int .i64 0, .int .i64 0]) ?_ 1 _ rfl; (with_reducible repeat (first | refine blk_drewN ?_ _ | refine blk_drew ?_)); refine blk_put (cs := #[.slice none 0 0, .slice none 0 0, .int .i64 0, .int .i64 0]) ?_ 0 _ rfl; (with_reducible repeat (first | refine blk_drewN ?_ _ | refine blk_drew ?_)); exact BKr.out) Try.underlying26 rfl (by kernel_rfl)) rfl ?_
      exact ⟨_, _, rfl, by (with_reducible repeat (first | apply Kd.R_drewN | apply Kd.R_drew)); exact Kd.R_mono (Kd.R_far (p := ⟨gr, 3, none⟩) (Kd.R_far (p := ⟨gr, 2, none⟩) (Kd.R_far (p := ⟨gr, 1, none⟩) (Kd.R_far (p := ⟨gr, 0, none⟩) (Kd.R_types HO0.out BKr.out (by decide)) (fun _ hk => hk.2) _) (fun _ hk => hk.2) _) (fun _ hk => hk.2) _) (fun _ hk => hk.2) _) (fun _ hk => hk.1), by (with_reducible repeat (first | apply Kd.R_drewN | apply Kd.R_drew)); exact Kd.R_mono (Kd.R_far (p := ⟨gr, 3, none⟩) (Kd.R_far (p := ⟨gr, 2, none⟩) (Kd.R_far (p := ⟨gr, 1, none⟩) (Kd.R_far (p := ⟨gr, 0, none⟩) (Kd.R_types HO1.out BKr.out (by decide)) (fun _ hk => hk.2) _) (fun _ hk => hk.2) _) (fun _ hk => hk.2) _) (fun _ hk => hk.2) _) (fun _ hk => hk.1), by (with_reducible repeat (first | exact HBB.out | apply pw_below_drewN | apply below_drew | (refine Below.setCell ?_ GRB.out _))), fun g cs h_ => by have hne_ : g ≠ gr := (by have := blk_lt h_; have := GBKr.out; omega); (with_reducible repeat (first | refine blk_drewN ?_ _ | refine blk_drew ?_ | refine blk_far ?_ hne_ _)); exact H26.out g cs h_⟩
/-- A view in memory, its rows its own, and what else stays. -/
def ViewAt (w0 W : World) (base B gw : Nat) (m0 m1 : List Int) (m2 m3 : Int) (W' : World) : Prop :=
  ∃ v0 v1 : Value, W'.heap[gw]? = some (.cells #[v0, v1, .int .i64 m2, .int .i64 m3] 26 (0, 0)) ∧ Kd.R (Kd.int .i64) 3 W' base (fun k_ => some k_ ≠ (v1 : Value).ownBlock) v0 m0 ∧ Kd.R (Kd.int .i64) 3 W' base (fun k_ => some k_ ≠ (v0 : Value).ownBlock) v1 m1 ∧
    (∀ (g : Nat) (cs : Array Value), g ≠ gw → W.heap[g]? = some (.cells cs 26 (0, 0)) → W'.heap[g]? = some (.cells cs 26 (0, 0))) ∧ W.heap.size ≤ W'.heap.size ∧ Below B w0 W'
/-- set, over rows. -/
theorem set_at (w0 W : World) (base B gw : Nat) (v0 v1 : Value) (l0 l1 : List Int) (o b axis n s sv : Int) (hsv : sv = if n = 1 then 0 else s)
    (hp : W.heap[gw]? = some (.cells #[v0, v1, .int .i64 o, .int .i64 b] 26 (0, 0)))
    (h0 : Kd.R (Kd.int .i64) 3 W base (fun k_ => some k_ ≠ (v1 : Value).ownBlock) v0 l0) (h1 : Kd.R (Kd.int .i64) 3 W base (fun k_ => some k_ ≠ (v0 : Value).ownBlock) v1 l1)
    (hB : Below B w0 W) (hbase : B ≤ base) (ha : 0 ≤ axis) (ha0 : axis < (l0.length : Int)) (ha1 : axis < (l1.length : Int)) :
    Calls Try.prog 42 #[.pointer (some ⟨gw, 0, none⟩), .int .i64 axis, .int .i64 n, .int .i64 s] W fun e W' => e = .returned (.tuple #[]) ∧ ViewAt w0 W base B gw (l0.set axis.toNat n) (l1.set axis.toNat sv) o b W' := by
  obtain ⟨g0, d0, rfl, b0, s0, cs0, hc0⟩ := Kd.R_form h0 (by omega)
  obtain ⟨g1, d1, rfl, b1, s1, cs1, hc1⟩ := Kd.R_form h1 (by omega)
  have e0 : g0 ≠ g1 := by
    have := h0.1 g0 rfl
    intro e
    exact this (by rw [e]; rfl)
  have n0 : gw ≠ g0 := blk_ne hp hc0 (by decide)
  have n1 : gw ≠ g1 := blk_ne hp hc1 (by decide)
  obtain ⟨x0, f0⟩ := Kd.R_celln 0 h0 axis ha ha0
  obtain ⟨x1, f1⟩ := Kd.R_celln 0 h1 axis ha ha1
  refine (set_calls gw g0 d0 l0.length g1 d1 l1.length o b axis n s _ _ sv W hsv hp x0 x1 f0 f1 e0 ha ha0 ha1).mono ?_
  rintro e w' ⟨rfl, m, rfl⟩
  have p0 := (Kd.R_putg h0 axis n).1
  have t1 := Kd.R_far (p := ⟨g0, axis.toNat, none⟩) h1 (fun k hk e => hk (by rw [e]; rfl)) (.int .i64 n)
  have t0 := Kd.R_far (p := ⟨g1, axis.toNat, none⟩) p0 (fun k hk e => hk (by rw [e]; rfl)) (.int .i64 sv)
  have p1 := (Kd.R_putg t1 axis sv).1
  refine ⟨rfl, _, _, blk_drewN (blk_far (blk_far hp n0 _) n1 _) m, Kd.R_drewN t0 m, Kd.R_drewN p1 m, ?_, ?_, ?_⟩
  · intro g cs hg h
    have m0 : g ≠ g0 := blk_ne h hc0 (by decide)
    have m1 : g ≠ g1 := blk_ne h hc1 (by decide)
    exact blk_drewN (blk_far (blk_far h m0 _) m1 _) m
  · simp
  · exact pw_below_drewN ((hB.setCell (p := ⟨g0, axis.toNat, none⟩) (Nat.le_trans hbase b0) _).setCell (p := ⟨g1, axis.toNat, none⟩) (Nat.le_trans hbase b1) _) m
set_option maxHeartbeats 2000000 in
set_option maxRecDepth 100000 in
theorem put_at (w0 W : World) (base B gw : Nat) (A0 A1 : Option Addr) (d0 d1 : Nat) (l0 l1 : List Int) (o b n s sv : Int) (hsv : sv = if n = 1 then 0 else s)
    (hp : W.heap[gw]? = some (.cells #[.slice A0 l0.length d0, .slice A1 l1.length d1, .int .i64 o, .int .i64 b] 26 (0, 0)))
    (h0 : Kd.R (Kd.int .i64) 3 W base (fun k_ => some k_ ≠ (.slice A1 l1.length d1 : Value).ownBlock) (.slice A0 l0.length d0) l0) (h1 : Kd.R (Kd.int .i64) 3 W base (fun k_ => some k_ ≠ (.slice A0 l0.length d0 : Value).ownBlock) (.slice A1 l1.length d1) l1)
    (hB : Below B w0 W) (hbase : B ≤ base) (hbs : base ≤ W.heap.size) (hgw : B ≤ gw) (hl : l0.length = l1.length) (hl2 : l0.length ≤ 1000) :
    Calls Try.prog 47 #[.pointer (some ⟨gw, 0, none⟩), .int .i64 n, .int .i64 s] W fun e W' => e = .returned (.tuple #[]) ∧ ViewAt w0 W base B gw (l0 ++ [n]) (l1 ++ [sv]) o b W' := by
  have HSV := Aside0.mk hsv
  clear hsv
  have hc0 := (blk_cell hp 0).trans (show _ = some (Value.slice A0 l0.length d0) from rfl)
  have hc1 := (blk_cell hp 1).trans (show _ = some (Value.slice A1 l1.length d1) from rfl)
  have hf0 := blk_frozen hp 0
  have hf1 := blk_frozen hp 1
  have BK := Aside0.mk hp
  have HO0 := Aside0.mk h0
  have HO1 := Aside0.mk h1
  have HBB := Aside0.mk hB
  have HBA := Aside0.mk (And.intro hbase (And.intro hbs hgw))
  have HL := Aside0.mk (And.intro hl hl2)
  clear hp h0 h1 hB hbase hbs hgw hl hl2
  obtain ⟨y0, HY0⟩ : ∃ y_ : List Int, y_ = l0 ++ [0] := ⟨_, rfl⟩
  obtain ⟨y1, HY1⟩ : ∃ y_ : List Int, y_ = l1 ++ [0] := ⟨_, rfl⟩
  have HWX : Aside0 (wrap64 ((y0.length : Int) - 1) = (l0.length : Int)) := ⟨by have := HL.out; rw [HY0, List.length_append, List.length_singleton]; unfold wrap64; omega⟩
  go_enter Try.func47, Try.ntmps47
  go_wp2_with (first | (at_builtin; refine Kd.R_append (Kd.int .i64) (w0 := W) base rfl (.tmp 10) (.tmp 11) 22 3 (.int .i64 0) 8 rfl Try.underlying22 info3 rfl (by decide) (by omega) (.slice A0 l0.length d0) l0 0 [.int .i64 0] (fun k_ => some k_ ≠ (.slice A1 l1.length d1 : Value).ownBlock) (fun _ => False) rfl rfl rfl (fun _ hk => hk.elim) ?aF HO0.out (Below.refl _ _) HBA.out.2.1 ?aL ?_; (case aF => exact fun k hk e => by have := Kd.R_lt HO1.out k e.symm; omega); (case aL => have := HL.out; omega); intro v1 w1 ho hb hg hat; have hbk := blk_grown BK.out hg (Kd.R_ne HO0.out BK.out (by decide)); have ho1 := Kd.R_after (v := .slice A0 l0.length d0) (v1 := v1) (ok := fun _ => True) (Kd.R_mono HO1.out (fun k hk => ⟨trivial, hk⟩)) hg hat; have hbb : Aside0 (Below B w0 w1) := ⟨HBB.out.trans (hb.mono HBA.out.1)⟩; have Y0 := Aside0.mk HY0; rw [← HY0] at ho; clear HY0; obtain ⟨E0, f0, rfl⟩ := Kd.R_slice ho; have SZ := Aside0.mk (And.intro (Nat.le_trans HBA.out.2.1 hb.size) hb.size); have H26 : Aside0 (∀ (g : Nat) (cs : Array Value), g ≠ gw → W.heap[g]? = some (.cells cs 26 (0, 0)) → w1.heap[g]? = some (.cells cs 26 (0, 0))) := ⟨fun g cs _ h => blk_grown h hg (Kd.R_ne HO0.out h (by decide))⟩; have nbk_ := blk_put (cs' := #[.slice E0 y0.length f0, .slice A1 l1.length d1, .int .i64 o, .int .i64 b]) hbk 0 (.slice E0 y0.length f0) rfl; have nho0 := Aside0.mk (Kd.R_set ho hbk (by decide) 0 (.slice E0 y0.length f0)); have nho1 := Aside0.mk (Kd.R_mono (Kd.R_set ho1 hbk (by decide) 0 (.slice E0 y0.length f0)) (fun _ hk => hk.2)); have nbb_ : Aside0 (Below B w0 (w1.setCell ⟨gw, 0, none⟩ (.slice E0 y0.length f0))) := ⟨hbb.out.setCell (p := ⟨gw, 0, none⟩) HBA.out.2.2 _⟩; clear HO0 HO1 HBB BK hc0 hc1 hf0 hf1 hb hg hat ho ho1 hbb; have BK := Aside0.mk nbk_; have HBB := nbb_; have HO0 := nho0; have HO1 := nho1; clear nho0 nho1 nbk_ nbb_; have hc0 := (blk_cell hbk 0).trans (show _ = some (Value.slice A0 l0.length d0) from rfl); have hf0 := blk_frozen hbk 0; have hc1 := (blk_cell hbk 1).trans (show _ = some (Value.slice A1 l1.length d1) from rfl); clear hbk) | (at_builtin; refine Kd.R_append (Kd.int .i64) (w0 := (w1.setCell ⟨gw, 0, none⟩ (.slice E0 y0.length f0))) base rfl (.tmp 19) (.tmp 20) 22 3 (.int .i64 0) 8 rfl Try.underlying22 info3 rfl (by decide) (by omega) (.slice A1 l1.length d1) l1 0 [.int .i64 0] (fun k_ => some k_ ≠ (.slice E0 y0.length f0 : Value).ownBlock) (fun _ => False) rfl ?aX rfl (fun _ hk => hk.elim) ?aF HO1.out (Below.refl _ _) ?aS ?aL ?_; (case aX => show Value.slice (some ⟨w1.heap.size, 0, none⟩) 1 1 = _; simp); (case aF => exact fun k hk e => by have := Kd.R_lt HO0.out k e.symm; omega); (case aS => have := SZ.out.1; simpa using this); (case aL => have := HL.out; omega); intro v2 w2 ho hb hg hat; have hbk := blk_grown BK.out hg (Kd.R_ne HO1.out BK.out (by decide)); have ho1 := Kd.R_after (v := .slice A1 l1.length d1) (v1 := v2) (ok := fun _ => True) (Kd.R_mono HO0.out (fun k hk => ⟨trivial, hk⟩)) hg hat; have hbb : Aside0 (Below B w0 w2) := ⟨HBB.out.trans (hb.mono HBA.out.1)⟩; have Y1 := Aside0.mk HY1; rw [← HY1] at ho; clear HY1; obtain ⟨E1, f1, rfl⟩ := Kd.R_slice ho; have SZ2 : Aside0 (W.heap.size ≤ w2.heap.size) := ⟨Nat.le_trans (by have := SZ.out.2; simpa using this) hb.size⟩; have H262 : Aside0 (∀ (g : Nat) (cs : Array Value), g ≠ gw → W.heap[g]? = some (.cells cs 26 (0, 0)) → w2.heap[g]? = some (.cells cs 26 (0, 0))) := ⟨fun g cs hne_ h => blk_grown (blk_far (p := ⟨gw, 0, none⟩) (H26.out g cs hne_ h) hne_ _) hg (Kd.R_ne HO1.out (blk_far (p := ⟨gw, 0, none⟩) (H26.out g cs hne_ h) hne_ (.slice E0 y0.length f0)) (by decide))⟩; have nbk_ := blk_put (cs' := #[.slice E0 y0.length f0, .slice E1 y1.length f1, .int .i64 o, .int .i64 b]) hbk 1 (.slice E1 y1.length f1) rfl; have nho0 := Aside0.mk (Kd.R_mono (Kd.R_set ho1 hbk (by decide) 1 (.slice E1 y1.length f1)) (fun _ hk => hk.2)); have nho1 := Aside0.mk (Kd.R_set ho hbk (by decide) 1 (.slice E1 y1.length f1)); have nbb_ : Aside0 (Below B w0 (w2.setCell ⟨gw, 1, none⟩ (.slice E1 y1.length f1))) := ⟨hbb.out.setCell (p := ⟨gw, 1, none⟩) HBA.out.2.2 _⟩; clear HO0 HO1 HBB BK hc0 hc1 hf0 hb hg hat ho ho1 hbb; have BK := Aside0.mk nbk_; have HBB := nbb_; have HO0 := nho0; have HO1 := nho1; clear nho0 nho1 nbk_ nbb_; have hc0 := (blk_cell hbk 0).trans (show _ = some (Value.slice E0 y0.length f0) from rfl); have hc1 := (blk_cell hbk 1).trans (show _ = some (Value.slice A1 l1.length d1) from rfl); have hf1 := blk_frozen hbk 1; clear hbk) | (go_at_call 42; refine (set_at w0 (w2.setCell ⟨gw, 1, none⟩ (.slice E1 y1.length f1)) base B gw _ _ y0 y1 o b (wrap64 ((y0.length : Int) - 1)) n s sv HSV.out BK.out HO0.out HO1.out HBB.out HBA.out.1 (by rw [HWX.out]; omega) (by rw [HWX.out, Y0.out]; simp; omega) (by rw [HWX.out, Y1.out]; have := HL.out; simp; omega)).mono ?_; rintro e w' ⟨rfl, hv⟩; have HV := Aside0.mk hv; clear hv))
  go_end0
  refine ⟨rfl, ?_⟩
  obtain ⟨v0, v1, z1, z2, z3, z4, z5, z6⟩ := HV.out
  have es : y0.set (wrap64 ((y0.length : Int) - 1)).toNat n = l0 ++ [n] := by
    rw [HWX.out, Int.toNat_natCast, Y0.out, List.set_append_right _ _ (Nat.le_refl _), Nat.sub_self]
    rfl
  have et : y1.set (wrap64 ((y0.length : Int) - 1)).toNat sv = l1 ++ [sv] := by
    rw [HWX.out, Int.toNat_natCast, Y1.out, HL.out.1, List.set_append_right _ _ (Nat.le_refl _), Nat.sub_self]
    rfl
  rw [es] at z2
  rw [et] at z3
  exact ⟨v0, v1, z1, z2, z3, fun g cs hg h => z4 g cs hg (blk_far (p := ⟨gw, 1, none⟩) (H262.out g cs hg h) hg _), by have := SZ2.out; simp at z5; omega, z6⟩
/-- Windows' closure says no. -/
theorem windows_no1 (gw q1 q2 q3 : Nat) (A0 A1 : Option Addr) (c0 n0 c1 n1 : Nat) (o b axis size step : Int) (w : World)
    (hp : w.heap[gw]? = some (.cells #[.slice A0 n0 c0, .slice A1 n1 c1, .int .i64 o, .int .i64 b] 26 (0, 0)))
    (k1 : w.cell? ⟨q1, 0, none⟩ = some (.int .i64 axis)) (k2 : w.cell? ⟨q2, 0, none⟩ = some (.int .i64 size)) (k3 : w.cell? ⟨q3, 0, none⟩ = some (.int .i64 step))
    (h : ¬ (0 ≤ axis ∧ axis < (n0 : Int)) ∨ size < 1 ∨ step < 1) :
    Calls Try.prog 46 #[.pointer (some ⟨gw, 0, none⟩), .pointer (some ⟨q1, 0, none⟩), .pointer (some ⟨q2, 0, none⟩), .pointer (some ⟨q3, 0, none⟩)] w fun e w' => e = .returned (.bool false) ∧ ∃ m, w' = w.drewN m := by
  have hc0 := (blk_cell hp 0).trans (show _ = some (Value.slice A0 n0 c0) from rfl)
  clear hp
  by_cases h1 : 0 ≤ axis ∧ axis < (n0 : Int)
  · have HA := Aside0.mk (decide_eq_true h1).symm
    by_cases h2 : size < 1
    · have h2b : decide (size < 1) = true := decide_eq_true h2
      clear h h1 h2
      go_enter Try.func46, Try.ntmps46
      go_wp2
      go_quiet ((go_at_call 41; exact Calls.quiet_of_same ((isAxis_calls _ _ _ _ _ _ HA.out).mono (fun e w' h => ⟨h.1, h.2.symm⟩))))
      go_wp2
      go_ret
      exact ⟨rfl, _, rfl⟩
    · have h2b : decide (size < 1) = false := decide_eq_false h2
      have h3b : decide (step < 1) = true := decide_eq_true (by rcases h with h | h | h; exact absurd h1 h; exact absurd h h2; exact h)
      clear h h1 h2
      go_enter Try.func46, Try.ntmps46
      go_wp2
      go_quiet ((go_at_call 41; exact Calls.quiet_of_same ((isAxis_calls _ _ _ _ _ _ HA.out).mono (fun e w' h => ⟨h.1, h.2.symm⟩))))
      go_wp2
      go_ret
      exact ⟨rfl, _, rfl⟩
  · have HA := Aside0.mk (decide_eq_false h1).symm
    clear h h1
    go_enter Try.func46, Try.ntmps46
    go_wp2
    go_quiet ((go_at_call 41; exact Calls.quiet_of_same ((isAxis_calls _ _ _ _ _ _ HA.out).mono (fun e w' h => ⟨h.1, h.2.symm⟩))))
    go_wp2
    go_ret
    exact ⟨rfl, _, rfl⟩
set_option maxHeartbeats 2000000 in
set_option maxRecDepth 100000 in
theorem windows_no2 (gw q1 q2 q3 g0 c0 n0 : Nat) (v1 : Value) (o b axis size step x0 : Int) (w : World)
    (hp : w.heap[gw]? = some (.cells #[.slice (some ⟨g0, 0, none⟩) n0 c0, v1, .int .i64 o, .int .i64 b] 26 (0, 0)))
    (k1 : w.cell? ⟨q1, 0, none⟩ = some (.int .i64 axis)) (k2 : w.cell? ⟨q2, 0, none⟩ = some (.int .i64 size)) (k3 : w.cell? ⟨q3, 0, none⟩ = some (.int .i64 step))
    (hx0 : w.cell? ⟨g0, axis.toNat, none⟩ = some (.int .i64 x0)) (ha : 0 ≤ axis) (ha0 : axis < n0) (h1 : 1 ≤ size) (h2 : 1 ≤ step) (h : x0 < size) :
    Calls Try.prog 46 #[.pointer (some ⟨gw, 0, none⟩), .pointer (some ⟨q1, 0, none⟩), .pointer (some ⟨q2, 0, none⟩), .pointer (some ⟨q3, 0, none⟩)] w fun e w' => e = .returned (.bool false) ∧ ∃ m, w' = w.drewN m := by
  have hc0 := (blk_cell hp 0).trans (show _ = some (Value.slice (some ⟨g0, 0, none⟩) n0 c0) from rfl)
  have HA := Aside0.mk (decide_eq_true (show 0 ≤ axis ∧ axis < (n0 : Int) from ⟨ha, ha0⟩)).symm
  have b1 : decide (size < 1) = false := decide_eq_false (by omega)
  have b2 : decide (step < 1) = false := decide_eq_false (by omega)
  have b3 : decide (x0 < size) = true := decide_eq_true h
  clear hp h h1 h2
  go_enter Try.func46, Try.ntmps46
  go_wp2
  go_quiet ((go_at_call 41; exact Calls.quiet_of_same ((isAxis_calls _ _ _ _ _ _ HA.out).mono (fun e w' h => ⟨h.1, h.2.symm⟩))))
  go_wp2
  go_ret
  exact ⟨rfl, _, rfl⟩
set_option maxHeartbeats 2000000 in
set_option maxRecDepth 100000 in
theorem windows_yes (w0 W : World) (base B gw q1 q2 q3 g0 g1 d0 d1 : Nat) (l0 l1 : List Int) (o b axis size step n sv tv : Int) (hsv : sv = if n = 1 then 0 else wrap64 (rd l1 axis * step)) (htv : tv = if size = 1 then 0 else rd l1 axis)
    (hp : W.heap[gw]? = some (.cells #[.slice (some ⟨g0, 0, none⟩) l0.length d0, .slice (some ⟨g1, 0, none⟩) l1.length d1, .int .i64 o, .int .i64 b] 26 (0, 0)))
    (h0 : Kd.R (Kd.int .i64) 3 W base (fun k_ => some k_ ≠ (.slice (some ⟨g1, 0, none⟩) l1.length d1 : Value).ownBlock) (.slice (some ⟨g0, 0, none⟩) l0.length d0) l0) (h1 : Kd.R (Kd.int .i64) 3 W base (fun k_ => some k_ ≠ (.slice (some ⟨g0, 0, none⟩) l0.length d0 : Value).ownBlock) (.slice (some ⟨g1, 0, none⟩) l1.length d1) l1)
    (hB : Below B w0 W) (hbase : B ≤ base) (hbs : base ≤ W.heap.size) (hgw : B ≤ gw)
    (k1 : W.cell? ⟨q1, 0, none⟩ = some (.int .i64 axis)) (k2 : W.cell? ⟨q2, 0, none⟩ = some (.int .i64 size)) (k3 : W.cell? ⟨q3, 0, none⟩ = some (.int .i64 step))
    (hq2 : q2 < base) (ha : 0 ≤ axis) (ha0 : axis < (l0.length : Int)) (ha1 : axis < (l1.length : Int)) (hl : l0.length = l1.length) (hl2 : l0.length ≤ 1000) (c1 : 1 ≤ size) (c2 : 1 ≤ step) (c3 : size ≤ rd l0 axis) (c4 : rd l0 axis ≤ 4096) (hn : n = (rd l0 axis - size) / step + 1) (hn1 : n ≠ 1) :
    Calls Try.prog 46 #[.pointer (some ⟨gw, 0, none⟩), .pointer (some ⟨q1, 0, none⟩), .pointer (some ⟨q2, 0, none⟩), .pointer (some ⟨q3, 0, none⟩)] W fun e W' => e = .returned (.bool true) ∧ ViewAt w0 W base B gw (l0.set axis.toNat n ++ [size]) (l1.set axis.toNat sv ++ [tv]) o b W' := by
  have hc0 := (blk_cell hp 0).trans (show _ = some (Value.slice (some ⟨g0, 0, none⟩) l0.length d0) from rfl)
  have hc1 := (blk_cell hp 1).trans (show _ = some (Value.slice (some ⟨g1, 0, none⟩) l1.length d1) from rfl)
  have hx0 := (Kd.R_celln 0 h0 axis ha ha0).1
  have hx1 := (Kd.R_celln 0 h1 axis ha ha1).1
  have e0 : rdOf 0 l0 axis = rd l0 axis := rfl
  have e1 : rdOf 0 l1 axis = rd l1 axis := rfl
  rw [e0] at hx0
  rw [e1] at hx1
  clear e0 e1
  have HA := Aside0.mk (decide_eq_true (show 0 ≤ axis ∧ axis < (l0.length : Int) from ⟨ha, ha0⟩)).symm
  have b1 : decide (size < 1) = false := decide_eq_false (by omega)
  have b2 : decide (step < 1) = false := decide_eq_false (by omega)
  have b3 : decide (rd l0 axis < size) = false := decide_eq_false (by omega)
  have d1' : 0 ≤ (rd l0 axis - size) / step := Int.ediv_nonneg (by omega) (by omega)
  have d2' : (rd l0 axis - size) / step ≤ 4096 := Int.le_trans (Int.ediv_le_self _ (by omega)) (by omega)
  have s1' : 0 ≤ rd l0 axis - size := by omega
  have s2' : rd l0 axis - size ≤ 4096 := by omega
  have sz' : (step == 0) = false := beq_eq_false_iff_ne.mpr (by omega)
  have n1' : ((rd l0 axis - size) / step + 1 == 1) = false := beq_eq_false_iff_ne.mpr (by rw [← hn]; exact hn1)
  have HP := Aside0.mk hp
  have HO0 := Aside0.mk h0
  have HO1 := Aside0.mk h1
  have HBB := Aside0.mk hB
  have HBA := Aside0.mk (And.intro hbase (And.intro hbs hgw))
  have HN := Aside0.mk (And.intro ha (And.intro ha0 ha1))
  have HL := Aside0.mk (And.intro hl hl2)
  have HSV := Aside0.mk hsv
  have HQ := Aside0.mk hq2
  have K2 := Aside0.mk k2
  clear hq2
  have HTV := Aside0.mk htv
  clear hp h0 h1 hB hbase hbs hgw hsv htv hl hl2 c1 c3 c4 hn1
  subst hn
  go_enter Try.func46, Try.ntmps46
  go_wp2
  go_quiet ((go_at_call 41; exact Calls.quiet_of_same ((isAxis_calls _ _ _ _ _ _ HA.out).mono (fun e w' h => ⟨h.1, h.2.symm⟩))))
  go_wp2
  go_quiet (fail)
  go_wp2
  go_quiet (fail)
  go_wp2_with (first | (go_at_call 42; refine (set_at W _ base base gw _ _ l0 l1 o b axis ((rd l0 axis - size) / step + 1) (wrap64 (rd l1 axis * step)) sv HSV.out (by (with_reducible repeat (first | refine blk_drewN ?_ _)); exact HP.out) (by (with_reducible repeat (first | apply Kd.R_drewN)); exact HO0.out) (by (with_reducible repeat (first | apply Kd.R_drewN)); exact HO1.out) (by (with_reducible repeat (first | apply pw_below_drewN)); exact Below.refl _ _) (Nat.le_refl _) HN.out.1 HN.out.2.1 HN.out.2.2).mono ?_; rintro e w3 ⟨rfl, hv⟩; obtain ⟨v0, v1, z1, z2, z3, z4, z5, z6⟩ := hv; obtain ⟨E0, f0, rfl⟩ := Kd.R_slice z2; obtain ⟨E1, f1, rfl⟩ := Kd.R_slice z3; have Z := Aside0.mk (And.intro z1 (And.intro z2 (And.intro z3 (And.intro z4 (And.intro z5 z6))))); have k2' : w3.cell? ⟨q2, 0, none⟩ = some (.int .i64 size) := (z6.cell (p := ⟨q2, 0, none⟩) HQ.out).trans K2.out; clear z1 z2 z3 z4 z5 z6) | (go_at_call 47; refine (put_at w0 w3 base B gw E0 E1 f0 f1 (l0.set axis.toNat ((rd l0 axis - size) / step + 1)) (l1.set axis.toNat sv) o b size (rd l1 axis) tv HTV.out Z.out.1 Z.out.2.1 Z.out.2.2.1 (HBB.out.trans (Z.out.2.2.2.2.2.mono HBA.out.1)) HBA.out.1 (by have := Z.out.2.2.2.2.1; have := HBA.out.2.1; simp at *; omega) HBA.out.2.2 (by simp; exact HL.out.1) (by simp; exact HL.out.2)).mono ?_; rintro e w4 ⟨rfl, hv⟩; have HV := Aside0.mk hv; clear hv))
  go_ret
  refine ⟨rfl, ?_⟩
  obtain ⟨v0, v1, z1, z2, z3, z4, z5, z6⟩ := HV.out
  exact ⟨v0, v1, z1, z2, z3, fun g cs hg h => z4 g cs hg (Z.out.2.2.2.1 g cs hg (by (with_reducible repeat (first | refine blk_drewN ?_ _)); exact h)), by have := Z.out.2.2.2.2.1; simp at this; omega, z6⟩
set_option maxHeartbeats 2000000 in
set_option maxRecDepth 100000 in
theorem windows_one (w0 W : World) (base B gw q1 q2 q3 g0 g1 d0 d1 : Nat) (l0 l1 : List Int) (o b axis size step n sv tv : Int) (hsv : sv = if n = 1 then 0 else 0) (htv : tv = if size = 1 then 0 else rd l1 axis)
    (hp : W.heap[gw]? = some (.cells #[.slice (some ⟨g0, 0, none⟩) l0.length d0, .slice (some ⟨g1, 0, none⟩) l1.length d1, .int .i64 o, .int .i64 b] 26 (0, 0)))
    (h0 : Kd.R (Kd.int .i64) 3 W base (fun k_ => some k_ ≠ (.slice (some ⟨g1, 0, none⟩) l1.length d1 : Value).ownBlock) (.slice (some ⟨g0, 0, none⟩) l0.length d0) l0) (h1 : Kd.R (Kd.int .i64) 3 W base (fun k_ => some k_ ≠ (.slice (some ⟨g0, 0, none⟩) l0.length d0 : Value).ownBlock) (.slice (some ⟨g1, 0, none⟩) l1.length d1) l1)
    (hB : Below B w0 W) (hbase : B ≤ base) (hbs : base ≤ W.heap.size) (hgw : B ≤ gw)
    (k1 : W.cell? ⟨q1, 0, none⟩ = some (.int .i64 axis)) (k2 : W.cell? ⟨q2, 0, none⟩ = some (.int .i64 size)) (k3 : W.cell? ⟨q3, 0, none⟩ = some (.int .i64 step))
    (hq2 : q2 < base) (ha : 0 ≤ axis) (ha0 : axis < (l0.length : Int)) (ha1 : axis < (l1.length : Int)) (hl : l0.length = l1.length) (hl2 : l0.length ≤ 1000) (c1 : 1 ≤ size) (c2 : 1 ≤ step) (c3 : size ≤ rd l0 axis) (c4 : rd l0 axis ≤ 4096) (hn : n = (rd l0 axis - size) / step + 1) (hn1 : n = 1) (kk3 : W.heap[q3]? = some (.cells #[.int .i64 step] 3 (0, 0))) (hq3 : q3 < base) (hBq : B ≤ q3) (h13 : q1 ≠ q3) (h23 : q2 ≠ q3) (hgq : gw ≠ q3) :
    Calls Try.prog 46 #[.pointer (some ⟨gw, 0, none⟩), .pointer (some ⟨q1, 0, none⟩), .pointer (some ⟨q2, 0, none⟩), .pointer (some ⟨q3, 0, none⟩)] W fun e W' => e = .returned (.bool true) ∧ ViewAt w0 W base B gw (l0.set axis.toNat n ++ [size]) (l1.set axis.toNat sv ++ [tv]) o b W' := by
  have hc0 := (blk_cell hp 0).trans (show _ = some (Value.slice (some ⟨g0, 0, none⟩) l0.length d0) from rfl)
  have hc1 := (blk_cell hp 1).trans (show _ = some (Value.slice (some ⟨g1, 0, none⟩) l1.length d1) from rfl)
  have hx0 := (Kd.R_celln 0 h0 axis ha ha0).1
  have hx1 := (Kd.R_celln 0 h1 axis ha ha1).1
  have e0 : rdOf 0 l0 axis = rd l0 axis := rfl
  have e1 : rdOf 0 l1 axis = rd l1 axis := rfl
  rw [e0] at hx0
  rw [e1] at hx1
  clear e0 e1
  have HA := Aside0.mk (decide_eq_true (show 0 ≤ axis ∧ axis < (l0.length : Int) from ⟨ha, ha0⟩)).symm
  have b1 : decide (size < 1) = false := decide_eq_false (by omega)
  have b2 : decide (step < 1) = false := decide_eq_false (by omega)
  have b3 : decide (rd l0 axis < size) = false := decide_eq_false (by omega)
  have d1' : 0 ≤ (rd l0 axis - size) / step := Int.ediv_nonneg (by omega) (by omega)
  have d2' : (rd l0 axis - size) / step ≤ 4096 := Int.le_trans (Int.ediv_le_self _ (by omega)) (by omega)
  have s1' : 0 ≤ rd l0 axis - size := by omega
  have s2' : rd l0 axis - size ≤ 4096 := by omega
  have sz' : (step == 0) = false := beq_eq_false_iff_ne.mpr (by omega)
  have n1' : ((rd l0 axis - size) / step + 1 == 1) = true := beq_iff_eq.mpr (by rw [← hn]; exact hn1)
  have HP := Aside0.mk hp
  have HO0 := Aside0.mk h0
  have HO1 := Aside0.mk h1
  have HBB := Aside0.mk hB
  have HBA := Aside0.mk (And.intro hbase (And.intro hbs hgw))
  have HN := Aside0.mk (And.intro ha (And.intro ha0 ha1))
  have HL := Aside0.mk (And.intro hl hl2)
  have HSV := Aside0.mk hsv
  have K3 := Aside0.mk (And.intro kk3 (And.intro hq3 (And.intro hBq (And.intro h23 hgq))))
  have fq3 := blk_frozen kk3 0
  clear kk3 hq3 hBq hgq
  have HQ := Aside0.mk hq2
  have K2 := Aside0.mk k2
  clear hq2
  have HTV := Aside0.mk htv
  clear hp h0 h1 hB hbase hbs hgw hsv htv hl hl2 c1 c3 c4 hn1
  subst hn
  go_enter Try.func46, Try.ntmps46
  go_wp2
  go_quiet ((go_at_call 41; exact Calls.quiet_of_same ((isAxis_calls _ _ _ _ _ _ HA.out).mono (fun e w' h => ⟨h.1, h.2.symm⟩))))
  go_wp2
  go_quiet (fail)
  go_wp2
  go_quiet (fail)
  go_wp2_with (first | (go_at_call 42; refine (set_at _ _ base base gw _ _ l0 l1 o b axis ((rd l0 axis - size) / step + 1) 0 sv HSV.out (blk_far (p := ⟨q3, 0, none⟩) (blk_drewN HP.out _) K3.out.2.2.2.2 _) (Kd.R_mono (Kd.R_far (p := ⟨q3, 0, none⟩) (Kd.R_bound (Kd.R_drewN HO0.out _)) (fun k hk e => by have := hk.2.1; rw [e] at this; exact absurd K3.out.2.1 (Nat.not_lt.2 this)) _) (fun _ hk => hk.1)) (Kd.R_mono (Kd.R_far (p := ⟨q3, 0, none⟩) (Kd.R_bound (Kd.R_drewN HO1.out _)) (fun k hk e => by have := hk.2.1; rw [e] at this; exact absurd K3.out.2.1 (Nat.not_lt.2 this)) _) (fun _ hk => hk.1)) (Below.refl _ _) (Nat.le_refl _) HN.out.1 HN.out.2.1 HN.out.2.2).mono ?_; rintro e w3 ⟨rfl, hv⟩; obtain ⟨v0, v1, z1, z2, z3, z4, z5, z6⟩ := hv; obtain ⟨E0, f0, rfl⟩ := Kd.R_slice z2; obtain ⟨E1, f1, rfl⟩ := Kd.R_slice z3; have Z := Aside0.mk (And.intro z1 (And.intro z2 (And.intro z3 (And.intro z4 (And.intro z5 z6))))); have k2' : w3.cell? ⟨q2, 0, none⟩ = some (.int .i64 size) := ((z6.cell (p := ⟨q2, 0, none⟩) HQ.out).trans (World.cell?_setCell_far _ ⟨q3, 0, none⟩ ⟨q2, 0, none⟩ _ (fun e => K3.out.2.2.2.1 e.symm))).trans K2.out; clear z1 z2 z3 z4 z5 z6) | (go_at_call 47; refine (put_at w0 w3 base B gw E0 E1 f0 f1 (l0.set axis.toNat ((rd l0 axis - size) / step + 1)) (l1.set axis.toNat sv) o b size (rd l1 axis) tv HTV.out Z.out.1 Z.out.2.1 Z.out.2.2.1 (((pw_below_drewN HBB.out _).setCell (p := ⟨q3, 0, none⟩) K3.out.2.2.1 _).trans (Z.out.2.2.2.2.2.mono HBA.out.1)) HBA.out.1 (by have h1_ := Z.out.2.2.2.2.1; have h2_ := HBA.out.2.1; simp at h1_; omega) HBA.out.2.2 (by simp; exact HL.out.1) (by simp; exact HL.out.2)).mono ?_; rintro e w4 ⟨rfl, hv⟩; have HV := Aside0.mk hv; clear hv))
  go_ret
  refine ⟨rfl, ?_⟩
  obtain ⟨v0, v1, z1, z2, z3, z4, z5, z6⟩ := HV.out
  exact ⟨v0, v1, z1, z2, z3, fun g cs hg h => z4 g cs hg (Z.out.2.2.2.1 g cs hg (blk_far (p := ⟨q3, 0, none⟩) (blk_drewN h _) (blk_ne h K3.out.1 (by decide)) _)), by have := Z.out.2.2.2.2.1; simp at this; omega, z6⟩
/-- What Windows' closure does to a view's numbers. -/
def impl_Windows.by (l0 l1 : List Int) (o b axis size step : Int) : Option (Bool × List Int × List Int × Int × Int) :=
  if ¬ (0 ≤ axis ∧ axis < (l0.length : Int)) ∨ size < 1 ∨ step < 1 then some (false, l0, l1, o, b)
  else if rd l0 axis < size then some (false, l0, l1, o, b)
  else if ¬ (l0.length = l1.length ∧ l0.length ≤ 1000 ∧ rd l0 axis ≤ 4096) then none
  else some (true, l0.set axis.toNat ((rd l0 axis - size) / step + 1) ++ [size], l1.set axis.toNat (if (rd l0 axis - size) / step + 1 = 1 then 0 else wrap64 (rd l1 axis * step)) ++ [if size = 1 then 0 else rd l1 axis], o, b)
set_option maxHeartbeats 1000000 in
theorem impl_Windows.closure (wT W : World) (B q1 q2 q3 : Nat) (axis size step : Int) (gw : Nat) (A0 A1 : Option Addr) (d0 d1 : Nat) (l0 l1 : List Int) (o b : Int) (rb : Bool) (m0 m1 : List Int) (m2 m3 : Int)
    (kk1 : wT.heap[q1]? = some (.cells #[.int .i64 axis] 3 (0, 0))) (kk2 : wT.heap[q2]? = some (.cells #[.int .i64 size] 3 (0, 0))) (kk3 : wT.heap[q3]? = some (.cells #[.int .i64 step] 3 (0, 0)))
    (h13 : q1 ≠ q3) (h23 : q2 ≠ q3) (hBq : B ≤ q3) (hBT : B ≤ wT.heap.size) (w0 : World) (hB0 : Below B w0 wT) (hbW : Below wT.heap.size wT W) (hgw : wT.heap.size ≤ gw)
    (hp : W.heap[gw]? = some (.cells #[.slice A0 l0.length d0, .slice A1 l1.length d1, .int .i64 o, .int .i64 b] 26 (0, 0)))
    (h0 : Kd.R (Kd.int .i64) 3 W wT.heap.size (fun k_ => some k_ ≠ (.slice A1 l1.length d1 : Value).ownBlock) (.slice A0 l0.length d0) l0) (h1 : Kd.R (Kd.int .i64) 3 W wT.heap.size (fun k_ => some k_ ≠ (.slice A0 l0.length d0 : Value).ownBlock) (.slice A1 l1.length d1) l1)
    (hf : impl_Windows.by l0 l1 o b axis size step = some (rb, m0, m1, m2, m3)) :
    Calls Try.prog 46 #[.pointer (some ⟨gw, 0, none⟩), .pointer (some ⟨q1, 0, none⟩), .pointer (some ⟨q2, 0, none⟩), .pointer (some ⟨q3, 0, none⟩)] W (ViewBy w0 W wT.heap.size B gw rb m0 m1 m2 m3) := by
  have f1 := blk_below kk1 hbW
  have f2 := blk_below kk2 hbW
  have f3 := blk_below kk3 hbW
  have k1 : W.cell? ⟨q1, 0, none⟩ = some (.int .i64 axis) := (blk_cell f1 0).trans rfl
  have k2 : W.cell? ⟨q2, 0, none⟩ = some (.int .i64 size) := (blk_cell f2 0).trans rfl
  have k3 : W.cell? ⟨q3, 0, none⟩ = some (.int .i64 step) := (blk_cell f3 0).trans rfl
  have l1' := blk_lt kk1
  have l2' := blk_lt kk2
  have l3' := blk_lt kk3
  have hBW : Below B w0 W := below_then hB0 hBT hbW
  have hsz := below_size hbW
  unfold impl_Windows.by at hf
  by_cases c1 : ¬ (0 ≤ axis ∧ axis < (l0.length : Int)) ∨ size < 1 ∨ step < 1
  · rw [if_pos c1] at hf
    simp only [Option.some.injEq, Prod.mk.injEq] at hf
    obtain ⟨rfl, rfl, rfl, rfl, rfl⟩ := hf
    refine (windows_no1 gw q1 q2 q3 A0 A1 d0 l0.length d1 l1.length o b axis size step W hp k1 k2 k3 c1).mono ?_
    rintro e w' ⟨rfl, m, rfl⟩
    exact ViewBy.same m false hp h0 h1 hBW
  · rw [if_neg c1] at hf
    have ha : 0 ≤ axis ∧ axis < (l0.length : Int) := by
      by_cases z : 0 ≤ axis ∧ axis < (l0.length : Int)
      · exact z
      · exact absurd (Or.inl z) c1
    have hc1 : 1 ≤ size := by
      by_cases z : size < 1
      · exact absurd (Or.inr (Or.inl z)) c1
      · omega
    have hc2 : 1 ≤ step := by
      by_cases z : step < 1
      · exact absurd (Or.inr (Or.inr z)) c1
      · omega
    obtain ⟨g0, cap0, e0, b0, s0, cs0, hg0⟩ := Kd.R_form h0 (by omega)
    injection e0 with ea _ ec
    subst ea
    subst ec
    have x0 := (Kd.R_celln 0 h0 axis ha.1 ha.2).1
    by_cases c2 : rd l0 axis < size
    · rw [if_pos c2] at hf
      simp only [Option.some.injEq, Prod.mk.injEq] at hf
      obtain ⟨rfl, rfl, rfl, rfl, rfl⟩ := hf
      refine (windows_no2 gw q1 q2 q3 g0 d0 l0.length _ o b axis size step (rd l0 axis) W hp k1 k2 k3 x0 ha.1 ha.2 hc1 hc2 c2).mono ?_
      rintro e w' ⟨rfl, m, rfl⟩
      exact ViewBy.same m false hp h0 h1 hBW
    · rw [if_neg c2] at hf
      by_cases c3 : ¬ (l0.length = l1.length ∧ l0.length ≤ 1000 ∧ rd l0 axis ≤ 4096)
      · rw [if_pos c3] at hf
        cases hf
      · rw [if_neg c3] at hf
        have c4 : l0.length = l1.length ∧ l0.length ≤ 1000 ∧ rd l0 axis ≤ 4096 := by
          by_cases z : l0.length = l1.length ∧ l0.length ≤ 1000 ∧ rd l0 axis ≤ 4096
          · exact z
          · exact absurd z c3
        obtain ⟨g1, cap1, e1, b1, s1, cs1, hg1⟩ := Kd.R_form h1 (by omega)
        injection e1 with ea _ ec
        subst ea
        subst ec
        simp only [Option.some.injEq, Prod.mk.injEq] at hf
        obtain ⟨rfl, rfl, rfl, rfl, rfl⟩ := hf
        by_cases c5 : (rd l0 axis - size) / step + 1 = 1
        · refine (windows_one w0 W wT.heap.size B gw q1 q2 q3 g0 g1 d0 d1 l0 l1 o b axis size step _ (if (rd l0 axis - size) / step + 1 = 1 then 0 else wrap64 (rd l1 axis * step)) (if size = 1 then 0 else rd l1 axis) (by rw [if_pos c5, ite_self]) rfl hp h0 h1 hBW hBT hsz (by omega) k1 k2 k3 l2' ha.1 ha.2 (by omega) c4.1 c4.2.1 hc1 hc2 (by omega) c4.2.2 rfl c5 f3 l3' hBq h13 h23 (by omega)).mono ?_
          rintro e w' ⟨rfl, v0, v1, z1, z2, z3, z4, z5, z6⟩
          exact ⟨v0, v1, rfl, z1, z2, z3, z4, z5, z6⟩
        · refine (windows_yes w0 W wT.heap.size B gw q1 q2 q3 g0 g1 d0 d1 l0 l1 o b axis size step _ _ _ rfl rfl hp h0 h1 hBW hBT hsz (by omega) k1 k2 k3 l2' ha.1 ha.2 (by omega) c4.1 c4.2.1 hc1 hc2 (by omega) c4.2.2 rfl c5).mono ?_
          rintro e w' ⟨rfl, v0, v1, z1, z2, z3, z4, z5, z6⟩
          exact ⟨v0, v1, rfl, z1, z2, z3, z4, z5, z6⟩
def impl_Windows.f (k : Nat) (l0_0 : List Int) (l0_1 : List Int) (a0_2 : Int) (a0_3 : Int) (a1 : Int) (a2 : Int) (a3 : Int) : Option (List Int × List Int × Int × Int) :=
  (impl_ViewOk.f k l0_0 l0_1 a0_2 a0_3).bind fun t => if t = true then (slices_Clone_int_int.f l0_0).bind fun x0 => (slices_Clone_int_int.f l0_1).bind fun x1 => (impl_Windows.by x0 x1 a0_2 a0_3 a1 a2 a3).bind fun q =>
    if q.1 = true then (impl_ViewOk.f k q.2.1 q.2.2.1 q.2.2.2.1 q.2.2.2.2).bind fun t2 => if t2 = true then some q.2 else some ([], [], 0, 0) else some ([], [], 0, 0) else some ([], [], 0, 0)
theorem impl_Windows.mono : ∀ a0 a1 a2 a3 a4 a5 a6 k, LeO (impl_Windows.f k a0 a1 a2 a3 a4 a5 a6) (impl_Windows.f (k + 1) a0 a1 a2 a3 a4 a5 a6) := by
  intro a0 a1 a2 a3 a4 a5 a6 k
  unfold impl_Windows.f
  repeat' first
      | (with_reducible exact impl_ViewOk.mono _ _ _ _ _)
      | (with_reducible exact LeO.refl _)
      | (with_reducible exact LeO.none _)
      | (with_reducible refine LeO.ite ?_ ?_)
      | (with_reducible refine LeO.bind ?_ (fun _ => ?_))

set_option maxHeartbeats 8000000 in
set_option maxRecDepth 100000 in
theorem impl_Windows.own (k : Nat) (A0_0 : Option Addr) (c0_0 : Nat) (l0_0 : List Int) (A0_1 : Option Addr) (c0_1 : Nat) (l0_1 : List Int) (a0_2 : Int) (a0_3 : Int) (a1 : Int) (a2 : Int) (a3 : Int) (r1 : List Int) (r2 : List Int) (r3 : Int) (r4 : Int) (w : World) (hr0_0 : Kd.C (Kd.int .i64) w A0_0 l0_0.length l0_0) (hc0_0 : l0_0.length ≤ c0_0) (hr0_1 : Kd.C (Kd.int .i64) w A0_1 l0_1.length l0_1) (hc0_1 : l0_1.length ≤ c0_1) (h : impl_Windows.f k l0_0 l0_1 a0_2 a0_3 a1 a2 a3 = some (r1, r2, r3, r4)) :
    Calls Try.prog 17 #[.agg #[.slice A0_0 l0_0.length c0_0, .slice A0_1 l0_1.length c0_1, .int .i64 a0_2, .int .i64 a0_3], .int .i64 a1, .int .i64 a2, .int .i64 a3] w fun e w' => ∃ v0_ v1_ : Value, e = .returned (.agg #[v0_, v1_, .int .i64 r3, .int .i64 r4]) ∧ Kd.R (Kd.int .i64) 3 w' w.heap.size (fun k_ => some k_ ≠ (v1_ : Value).ownBlock) v0_ r1 ∧ Kd.R (Kd.int .i64) 3 w' w.heap.size (fun k_ => some k_ ≠ (v0_ : Value).ownBlock) v1_ r2 ∧ Below w.heap.size w w' := by
  have hu26 := Try.underlying26
  have HR0_0 := Aside0.mk hr0_0
  have HC0_0 := Aside0.mk hc0_0
  have HR0_1 := Aside0.mk hr0_1
  have HC0_1 := Aside0.mk hc0_1
  clear hr0_0 hc0_0 hr0_1 hc0_1
  have HB := Aside0.mk (Below.refl w.heap.size w)
  unfold impl_Windows.f at h
  obtain ⟨t, hv, h⟩ := Option.bind_eq_some_iff.mp h
  have HV := Aside0.mk hv
  clear hv
  cases t with
  | false =>
    rw [if_neg (by simp)] at h
    simp only [Option.some.injEq, Prod.mk.injEq] at h
    obtain ⟨rfl, rfl, rfl, rfl⟩ := h
    have hmf : ∀ (fn : Fn) (first cap : Array Value) (w : World), (Instr.makeFunc fn first cap).run Try.prog w = .ok (.func fn first cap) w := fun _ _ _ _ => rfl
    go_enter Try.func17, Try.ntmps17
    go_wp2_with (first | ((with_reducible refine gate_dst (N := 4) rfl ?_); refine box_event ?hg (N := 4) ?hd (cs := #[.slice A0_0 l0_0.length c0_0, .slice A0_1 l0_1.length c0_1, .int .i64 a0_2, .int .i64 a0_3]) (t := 26) ?hr ?_; (case hd => rfl); (case hg => rfl); (case hr => first | (go_simp; done) | (go_simp; rfl)); intro gv hg_gv w_gv hbox hb; have ng_ := Aside0.mk (by rw [hg_gv]; exact (below_size (by repeat (first | (with_reducible first | exact HB.out | apply below_alloc | apply pw_below_drewN | apply below_drew1) | exact HB.out))) : w.heap.size ≤ gv); have nb_ := Aside0.mk (below_step (by repeat (first | (with_reducible first | exact HB.out | apply below_alloc | apply pw_below_drewN | apply below_drew1) | exact HB.out)) hb); clear HB ; have HB := nb_; clear nb_  hb; have BKv := Aside0.mk hbox; have GBKv := ng_; clear hbox ng_ hg_gv) | ((with_reducible refine gate_dst (N := 5) rfl ?_); refine box_event ?hg (N := 5) ?hd (cs := #[.int .i64 a1]) (t := 3) ?hr ?_; (case hd => rfl); (case hg => rfl); (case hr => first | (go_simp; done) | (go_simp; rfl)); intro gq1 hg_gq1 w_gq1 hbox hb; have ng_ := Aside0.mk (by rw [hg_gq1]; exact (below_size (by repeat (first | (with_reducible first | exact HB.out | apply below_alloc | apply pw_below_drewN | apply below_drew1) | exact HB.out))) : w.heap.size ≤ gq1); have nb_ := Aside0.mk (below_step (by repeat (first | (with_reducible first | exact HB.out | apply below_alloc | apply pw_below_drewN | apply below_drew1) | exact HB.out)) hb); have n0_ := Aside0.mk (blk_below (g := gv) (o := .cells #[.slice A0_0 l0_0.length c0_0, .slice A0_1 l0_1.length c0_1, .int .i64 a0_2, .int .i64 a0_3] 26 (0, 0)) (by (with_reducible repeat (first | refine blk_drewN ?_ _ | refine blk_drew ?_ | refine blk_alloc ?_ _)); exact BKv.out) hb); clear HB BKv; have HB := nb_; have BKv := n0_; clear nb_ n0_ hb; have BKgq1 := Aside0.mk hbox; have GBKgq1 := ng_; clear hbox ng_ hg_gq1) | ((with_reducible refine gate_dst (N := 6) rfl ?_); refine box_event ?hg (N := 6) ?hd (cs := #[.int .i64 a2]) (t := 3) ?hr ?_; (case hd => rfl); (case hg => rfl); (case hr => first | (go_simp; done) | (go_simp; rfl)); intro gq2 hg_gq2 w_gq2 hbox hb; have ng_ := Aside0.mk (by rw [hg_gq2]; exact (below_size (by repeat (first | (with_reducible first | exact HB.out | apply below_alloc | apply pw_below_drewN | apply below_drew1) | exact HB.out))) : w.heap.size ≤ gq2); have nb_ := Aside0.mk (below_step (by repeat (first | (with_reducible first | exact HB.out | apply below_alloc | apply pw_below_drewN | apply below_drew1) | exact HB.out)) hb); have n0_ := Aside0.mk (blk_below (g := gv) (o := .cells #[.slice A0_0 l0_0.length c0_0, .slice A0_1 l0_1.length c0_1, .int .i64 a0_2, .int .i64 a0_3] 26 (0, 0)) (by (with_reducible repeat (first | refine blk_drewN ?_ _ | refine blk_drew ?_ | refine blk_alloc ?_ _)); exact BKv.out) hb); have n1_ := Aside0.mk (blk_below (g := gq1) (o := .cells #[.int .i64 a1] 3 (0, 0)) (by (with_reducible repeat (first | refine blk_drewN ?_ _ | refine blk_drew ?_ | refine blk_alloc ?_ _)); exact BKgq1.out) hb); clear HB BKv BKgq1; have HB := nb_; have BKv := n0_; have BKgq1 := n1_; clear nb_ n0_ n1_ hb; have BKgq2 := Aside0.mk hbox; have GBKgq2 := ng_; clear hbox ng_ hg_gq2) | ((with_reducible refine gate_dst (N := 7) rfl ?_); refine box_event ?hg (N := 7) ?hd (cs := #[.int .i64 a3]) (t := 3) ?hr ?_; (case hd => rfl); (case hg => rfl); (case hr => first | (go_simp; done) | (go_simp; rfl)); intro gq3 hg_gq3 w_gq3 hbox hb; have L13 := Aside0.mk (show gq1 < gq3 by rw [hg_gq3]; exact blk_lt BKgq1.out); have L23 := Aside0.mk (show gq2 < gq3 by rw [hg_gq3]; exact blk_lt BKgq2.out); have ng_ := Aside0.mk (by rw [hg_gq3]; exact (below_size (by repeat (first | (with_reducible first | exact HB.out | apply below_alloc | apply pw_below_drewN | apply below_drew1) | exact HB.out))) : w.heap.size ≤ gq3); have nb_ := Aside0.mk (below_step (by repeat (first | (with_reducible first | exact HB.out | apply below_alloc | apply pw_below_drewN | apply below_drew1) | exact HB.out)) hb); have n0_ := Aside0.mk (blk_below (g := gv) (o := .cells #[.slice A0_0 l0_0.length c0_0, .slice A0_1 l0_1.length c0_1, .int .i64 a0_2, .int .i64 a0_3] 26 (0, 0)) (by (with_reducible repeat (first | refine blk_drewN ?_ _ | refine blk_drew ?_ | refine blk_alloc ?_ _)); exact BKv.out) hb); have n1_ := Aside0.mk (blk_below (g := gq1) (o := .cells #[.int .i64 a1] 3 (0, 0)) (by (with_reducible repeat (first | refine blk_drewN ?_ _ | refine blk_drew ?_ | refine blk_alloc ?_ _)); exact BKgq1.out) hb); have n2_ := Aside0.mk (blk_below (g := gq2) (o := .cells #[.int .i64 a2] 3 (0, 0)) (by (with_reducible repeat (first | refine blk_drewN ?_ _ | refine blk_drew ?_ | refine blk_alloc ?_ _)); exact BKgq2.out) hb); clear HB BKv BKgq1 BKgq2; have HB := nb_; have BKv := n0_; have BKgq1 := n1_; have BKgq2 := n2_; clear nb_ n0_ n1_ n2_ hb; have BKgq3 := Aside0.mk hbox; have GBKgq3 := ng_; clear hbox ng_ hg_gq3) | ((with_reducible refine gate_dst (N := 8) rfl ?_); refine box_event ?hg (N := 8) ?hd (cs := #[.slice none 0 0, .slice none 0 0, .int .i64 0, .int .i64 0]) (t := 26) ?hr ?_; (case hd => rfl); (case hg => rfl); (case hr => first | (go_simp; done) | (go_simp; rfl)); intro gr hg_gr w_gr hbox hb; have ng_ := Aside0.mk (by rw [hg_gr]; exact (below_size (by repeat (first | (with_reducible first | exact HB.out | apply below_alloc | apply pw_below_drewN | apply below_drew1) | exact HB.out))) : w.heap.size ≤ gr); have nb_ := Aside0.mk (below_step (by repeat (first | (with_reducible first | exact HB.out | apply below_alloc | apply pw_below_drewN | apply below_drew1) | exact HB.out)) hb); have n0_ := Aside0.mk (blk_below (g := gv) (o := .cells #[.slice A0_0 l0_0.length c0_0, .slice A0_1 l0_1.length c0_1, .int .i64 a0_2, .int .i64 a0_3] 26 (0, 0)) (by (with_reducible repeat (first | refine blk_drewN ?_ _ | refine blk_drew ?_ | refine blk_alloc ?_ _)); exact BKv.out) hb); have n1_ := Aside0.mk (blk_below (g := gq1) (o := .cells #[.int .i64 a1] 3 (0, 0)) (by (with_reducible repeat (first | refine blk_drewN ?_ _ | refine blk_drew ?_ | refine blk_alloc ?_ _)); exact BKgq1.out) hb); have n2_ := Aside0.mk (blk_below (g := gq2) (o := .cells #[.int .i64 a2] 3 (0, 0)) (by (with_reducible repeat (first | refine blk_drewN ?_ _ | refine blk_drew ?_ | refine blk_alloc ?_ _)); exact BKgq2.out) hb); have n3_ := Aside0.mk (blk_below (g := gq3) (o := .cells #[.int .i64 a3] 3 (0, 0)) (by (with_reducible repeat (first | refine blk_drewN ?_ _ | refine blk_drew ?_ | refine blk_alloc ?_ _)); exact BKgq3.out) hb); clear HB BKv BKgq1 BKgq2 BKgq3; have HB := nb_; have BKv := n0_; have BKgq1 := n1_; have BKgq2 := n2_; have BKgq3 := n3_; clear nb_ n0_ n1_ n2_ n3_ hb; have BKr := Aside0.mk hbox; have GBKr := ng_; clear hbox ng_ hg_gr; have hcv0 : w_gr.cell? ⟨gv, 0, none⟩ = some (.slice A0_0 l0_0.length c0_0) := (blk_cell BKv.out 0).trans rfl; have hcv1 : w_gr.cell? ⟨gv, 1, none⟩ = some (.slice A0_1 l0_1.length c0_1) := (blk_cell BKv.out 1).trans rfl; have hcv2 : w_gr.cell? ⟨gv, 2, none⟩ = some (.int .i64 a0_2) := (blk_cell BKv.out 2).trans rfl; have hcv3 : w_gr.cell? ⟨gv, 3, none⟩ = some (.int .i64 a0_3) := (blk_cell BKv.out 3).trans rfl; have QN := Aside0.mk (show gq1 < gq3 ∧ gq2 < gq3 from ⟨L13.out, L23.out⟩)) | (go_at_call 39; refine (impl_turn.no k _ _ _ _ l0_0 _ _ l0_1 a0_2 a0_3 _ ?s1 HC0_0.out ?s3 HC0_1.out HV.out).mono ?_; (case s1 => repeat (first | exact (Kd.C_below HR0_0.out HB.out) | (with_reducible refine Kd.C_alloc ?_ _) | (with_reducible refine Kd.C_drewN ?_ _) | (with_reducible refine Kd.C_drew ?_))); (case s3 => repeat (first | exact (Kd.C_below HR0_1.out HB.out) | (with_reducible refine Kd.C_alloc ?_ _) | (with_reducible refine Kd.C_drewN ?_ _) | (with_reducible refine Kd.C_drew ?_))); rintro e w9 ⟨rfl, hb⟩; have nb_ := Aside0.mk (below_step (by repeat (first | (with_reducible first | exact HB.out | apply below_alloc | apply pw_below_drewN | apply below_drew1) | exact HB.out)) hb); have n0_ := Aside0.mk (blk_below (g := gv) (o := .cells #[.slice A0_0 l0_0.length c0_0, .slice A0_1 l0_1.length c0_1, .int .i64 a0_2, .int .i64 a0_3] 26 (0, 0)) (by (with_reducible repeat (first | refine blk_drewN ?_ _ | refine blk_drew ?_ | refine blk_alloc ?_ _)); exact BKv.out) hb); have n1_ := Aside0.mk (blk_below (g := gq1) (o := .cells #[.int .i64 a1] 3 (0, 0)) (by (with_reducible repeat (first | refine blk_drewN ?_ _ | refine blk_drew ?_ | refine blk_alloc ?_ _)); exact BKgq1.out) hb); have n2_ := Aside0.mk (blk_below (g := gq2) (o := .cells #[.int .i64 a2] 3 (0, 0)) (by (with_reducible repeat (first | refine blk_drewN ?_ _ | refine blk_drew ?_ | refine blk_alloc ?_ _)); exact BKgq2.out) hb); have n3_ := Aside0.mk (blk_below (g := gq3) (o := .cells #[.int .i64 a3] 3 (0, 0)) (by (with_reducible repeat (first | refine blk_drewN ?_ _ | refine blk_drew ?_ | refine blk_alloc ?_ _)); exact BKgq3.out) hb); have n4_ := Aside0.mk (blk_below (g := gr) (o := .cells #[.slice none 0 0, .slice none 0 0, .int .i64 0, .int .i64 0] 26 (0, 0)) (by (with_reducible repeat (first | refine blk_drewN ?_ _ | refine blk_drew ?_ | refine blk_alloc ?_ _)); exact BKr.out) hb); clear HB BKv BKgq1 BKgq2 BKgq3 BKr; have HB := nb_; have BKv := n0_; have BKgq1 := n1_; have BKgq2 := n2_; have BKgq3 := n3_; have BKr := n4_; clear nb_ n0_ n1_ n2_ n3_ n4_ hb; have hcr0 : w9.cell? ⟨gr, 0, none⟩ = some (.slice none 0 0) := (blk_cell BKr.out 0).trans rfl; have hcr1 : w9.cell? ⟨gr, 1, none⟩ = some (.slice none 0 0) := (blk_cell BKr.out 1).trans rfl; have hcr2 : w9.cell? ⟨gr, 2, none⟩ = some (.int .i64 0) := (blk_cell BKr.out 2).trans rfl; have hcr3 : w9.cell? ⟨gr, 3, none⟩ = some (.int .i64 0) := (blk_cell BKr.out 3).trans rfl; have hcrf0 := blk_frozen BKr.out 0; have hcrf1 := blk_frozen BKr.out 1; have hcrf2 := blk_frozen BKr.out 2; have hcrf3 := blk_frozen BKr.out 3))
    refine bodyPost_ret (results_cell_row rfl _ _ gr 26 #[.slice none 0 0, .slice none 0 0, .int .i64 0, .int .i64 0] (0, 0) _ rfl (by (with_reducible repeat (first | refine blk_drewN ?_ _ | refine blk_drew ?_)); refine blk_put (cs := #[.slice none 0 0, .slice none 0 0, .int .i64 0, .int .i64 0]) ?_ 3 _ rfl; (with_reducible repeat (first | refine blk_drewN ?_ _ | refine blk_drew ?_)); refine blk_put (cs := #[.slice none 0 0, .slice none 0 0, .int .i64 0, .int .i64 0]) ?_ 2 _ rfl; (with_reducible repeat (first | refine blk_drewN ?_ _ | refine blk_drew ?_)); refine blk_put (cs := #[.slice none 0 0, .slice none 0 0, .int .i64 0, .int .i64 0]) ?_ 1 _ rfl; (with_reducible repeat (first | refine blk_drewN ?_ _ | refine blk_drew ?_)); refine blk_put (cs := #[.slice none 0 0, .slice none 0 0, .int .i64 0, .int .i64 0]) ?_ 0 _ rfl; (with_reducible repeat (first | refine blk_drewN ?_ _ | refine blk_drew ?_)); exact BKr.out) Try.underlying26 rfl (by kernel_rfl)) rfl ?_
    exact ⟨_, _, rfl, Kd.R_nil _ _ _ _ _, Kd.R_nil _ _ _ _ _, by repeat (first | (with_reducible first | exact HB.out | apply below_alloc | apply pw_below_drewN | apply below_drew1 | refine below_set ?_ GBKr.out) | exact HB.out)⟩
  | true =>
    rw [if_pos rfl] at h
    obtain ⟨x0, hl0, h⟩ := Option.bind_eq_some_iff.mp h
    obtain ⟨x1, hl1, h⟩ := Option.bind_eq_some_iff.mp h
    obtain ⟨⟨rb, m0, m1, m2, m3⟩, hf, h⟩ := Option.bind_eq_some_iff.mp h
    obtain rfl : l0_0 = x0 := by
      unfold slices_Clone_int_int.f at hl0
      split at hl0
      · exact Option.some.inj hl0
      · cases hl0
    obtain rfl : l0_1 = x1 := by
      unfold slices_Clone_int_int.f at hl1
      split at hl1
      · exact Option.some.inj hl1
      · cases hl1
    obtain ⟨t2, hv2, hres⟩ : ∃ t2 : Bool, (rb = true → impl_ViewOk.f k m0 m1 m2 m3 = some t2) ∧ (if rb = true then (if t2 = true then (m0, m1, m2, m3) else ([], [], 0, 0)) else ([], [], 0, 0)) = (r1, r2, r3, r4) := by
      cases rb with
      | false =>
        rw [if_neg (by simp)] at h
        exact ⟨false, (fun z => (by cases z)), by simpa using h⟩
      | true =>
        rw [if_pos rfl] at h
        obtain ⟨t2, hv2, h⟩ := Option.bind_eq_some_iff.mp h
        refine ⟨t2, fun _ => hv2, ?_⟩
        cases t2 <;> simpa using h
    have HL0 := Aside0.mk hl0
    have HL1 := Aside0.mk hl1
    have HF := Aside0.mk hf
    have HV2 := Aside0.mk hv2
    have HRES := Aside0.mk hres
    clear hl0 hl1 hf hv2 hres h
    have hmf : ∀ (fn : Fn) (first cap : Array Value) (w : World), (Instr.makeFunc fn first cap).run Try.prog w = .ok (.func fn first cap) w := fun _ _ _ _ => rfl
    go_enter Try.func17, Try.ntmps17
    go_wp2_with (first | ((with_reducible refine gate_dst (N := 4) rfl ?_); refine box_event ?hg (N := 4) ?hd (cs := #[.slice A0_0 l0_0.length c0_0, .slice A0_1 l0_1.length c0_1, .int .i64 a0_2, .int .i64 a0_3]) (t := 26) ?hr ?_; (case hd => rfl); (case hg => rfl); (case hr => first | (go_simp; done) | (go_simp; rfl)); intro gv hg_gv w_gv hbox hb; have ng_ := Aside0.mk (by rw [hg_gv]; exact (below_size (by repeat (first | (with_reducible first | exact HB.out | apply below_alloc | apply pw_below_drewN | apply below_drew1) | exact HB.out))) : w.heap.size ≤ gv); have nb_ := Aside0.mk (below_step (by repeat (first | (with_reducible first | exact HB.out | apply below_alloc | apply pw_below_drewN | apply below_drew1) | exact HB.out)) hb); clear HB ; have HB := nb_; clear nb_  hb; have BKv := Aside0.mk hbox; have GBKv := ng_; clear hbox ng_ hg_gv) | ((with_reducible refine gate_dst (N := 5) rfl ?_); refine box_event ?hg (N := 5) ?hd (cs := #[.int .i64 a1]) (t := 3) ?hr ?_; (case hd => rfl); (case hg => rfl); (case hr => first | (go_simp; done) | (go_simp; rfl)); intro gq1 hg_gq1 w_gq1 hbox hb; have ng_ := Aside0.mk (by rw [hg_gq1]; exact (below_size (by repeat (first | (with_reducible first | exact HB.out | apply below_alloc | apply pw_below_drewN | apply below_drew1) | exact HB.out))) : w.heap.size ≤ gq1); have nb_ := Aside0.mk (below_step (by repeat (first | (with_reducible first | exact HB.out | apply below_alloc | apply pw_below_drewN | apply below_drew1) | exact HB.out)) hb); have n0_ := Aside0.mk (blk_below (g := gv) (o := .cells #[.slice A0_0 l0_0.length c0_0, .slice A0_1 l0_1.length c0_1, .int .i64 a0_2, .int .i64 a0_3] 26 (0, 0)) (by (with_reducible repeat (first | refine blk_drewN ?_ _ | refine blk_drew ?_ | refine blk_alloc ?_ _)); exact BKv.out) hb); clear HB BKv; have HB := nb_; have BKv := n0_; clear nb_ n0_ hb; have BKgq1 := Aside0.mk hbox; have GBKgq1 := ng_; clear hbox ng_ hg_gq1) | ((with_reducible refine gate_dst (N := 6) rfl ?_); refine box_event ?hg (N := 6) ?hd (cs := #[.int .i64 a2]) (t := 3) ?hr ?_; (case hd => rfl); (case hg => rfl); (case hr => first | (go_simp; done) | (go_simp; rfl)); intro gq2 hg_gq2 w_gq2 hbox hb; have ng_ := Aside0.mk (by rw [hg_gq2]; exact (below_size (by repeat (first | (with_reducible first | exact HB.out | apply below_alloc | apply pw_below_drewN | apply below_drew1) | exact HB.out))) : w.heap.size ≤ gq2); have nb_ := Aside0.mk (below_step (by repeat (first | (with_reducible first | exact HB.out | apply below_alloc | apply pw_below_drewN | apply below_drew1) | exact HB.out)) hb); have n0_ := Aside0.mk (blk_below (g := gv) (o := .cells #[.slice A0_0 l0_0.length c0_0, .slice A0_1 l0_1.length c0_1, .int .i64 a0_2, .int .i64 a0_3] 26 (0, 0)) (by (with_reducible repeat (first | refine blk_drewN ?_ _ | refine blk_drew ?_ | refine blk_alloc ?_ _)); exact BKv.out) hb); have n1_ := Aside0.mk (blk_below (g := gq1) (o := .cells #[.int .i64 a1] 3 (0, 0)) (by (with_reducible repeat (first | refine blk_drewN ?_ _ | refine blk_drew ?_ | refine blk_alloc ?_ _)); exact BKgq1.out) hb); clear HB BKv BKgq1; have HB := nb_; have BKv := n0_; have BKgq1 := n1_; clear nb_ n0_ n1_ hb; have BKgq2 := Aside0.mk hbox; have GBKgq2 := ng_; clear hbox ng_ hg_gq2) | ((with_reducible refine gate_dst (N := 7) rfl ?_); refine box_event ?hg (N := 7) ?hd (cs := #[.int .i64 a3]) (t := 3) ?hr ?_; (case hd => rfl); (case hg => rfl); (case hr => first | (go_simp; done) | (go_simp; rfl)); intro gq3 hg_gq3 w_gq3 hbox hb; have L13 := Aside0.mk (show gq1 < gq3 by rw [hg_gq3]; exact blk_lt BKgq1.out); have L23 := Aside0.mk (show gq2 < gq3 by rw [hg_gq3]; exact blk_lt BKgq2.out); have ng_ := Aside0.mk (by rw [hg_gq3]; exact (below_size (by repeat (first | (with_reducible first | exact HB.out | apply below_alloc | apply pw_below_drewN | apply below_drew1) | exact HB.out))) : w.heap.size ≤ gq3); have nb_ := Aside0.mk (below_step (by repeat (first | (with_reducible first | exact HB.out | apply below_alloc | apply pw_below_drewN | apply below_drew1) | exact HB.out)) hb); have n0_ := Aside0.mk (blk_below (g := gv) (o := .cells #[.slice A0_0 l0_0.length c0_0, .slice A0_1 l0_1.length c0_1, .int .i64 a0_2, .int .i64 a0_3] 26 (0, 0)) (by (with_reducible repeat (first | refine blk_drewN ?_ _ | refine blk_drew ?_ | refine blk_alloc ?_ _)); exact BKv.out) hb); have n1_ := Aside0.mk (blk_below (g := gq1) (o := .cells #[.int .i64 a1] 3 (0, 0)) (by (with_reducible repeat (first | refine blk_drewN ?_ _ | refine blk_drew ?_ | refine blk_alloc ?_ _)); exact BKgq1.out) hb); have n2_ := Aside0.mk (blk_below (g := gq2) (o := .cells #[.int .i64 a2] 3 (0, 0)) (by (with_reducible repeat (first | refine blk_drewN ?_ _ | refine blk_drew ?_ | refine blk_alloc ?_ _)); exact BKgq2.out) hb); clear HB BKv BKgq1 BKgq2; have HB := nb_; have BKv := n0_; have BKgq1 := n1_; have BKgq2 := n2_; clear nb_ n0_ n1_ n2_ hb; have BKgq3 := Aside0.mk hbox; have GBKgq3 := ng_; clear hbox ng_ hg_gq3) | ((with_reducible refine gate_dst (N := 8) rfl ?_); refine box_event ?hg (N := 8) ?hd (cs := #[.slice none 0 0, .slice none 0 0, .int .i64 0, .int .i64 0]) (t := 26) ?hr ?_; (case hd => rfl); (case hg => rfl); (case hr => first | (go_simp; done) | (go_simp; rfl)); intro gr hg_gr w_gr hbox hb; have ng_ := Aside0.mk (by rw [hg_gr]; exact (below_size (by repeat (first | (with_reducible first | exact HB.out | apply below_alloc | apply pw_below_drewN | apply below_drew1) | exact HB.out))) : w.heap.size ≤ gr); have nb_ := Aside0.mk (below_step (by repeat (first | (with_reducible first | exact HB.out | apply below_alloc | apply pw_below_drewN | apply below_drew1) | exact HB.out)) hb); have n0_ := Aside0.mk (blk_below (g := gv) (o := .cells #[.slice A0_0 l0_0.length c0_0, .slice A0_1 l0_1.length c0_1, .int .i64 a0_2, .int .i64 a0_3] 26 (0, 0)) (by (with_reducible repeat (first | refine blk_drewN ?_ _ | refine blk_drew ?_ | refine blk_alloc ?_ _)); exact BKv.out) hb); have n1_ := Aside0.mk (blk_below (g := gq1) (o := .cells #[.int .i64 a1] 3 (0, 0)) (by (with_reducible repeat (first | refine blk_drewN ?_ _ | refine blk_drew ?_ | refine blk_alloc ?_ _)); exact BKgq1.out) hb); have n2_ := Aside0.mk (blk_below (g := gq2) (o := .cells #[.int .i64 a2] 3 (0, 0)) (by (with_reducible repeat (first | refine blk_drewN ?_ _ | refine blk_drew ?_ | refine blk_alloc ?_ _)); exact BKgq2.out) hb); have n3_ := Aside0.mk (blk_below (g := gq3) (o := .cells #[.int .i64 a3] 3 (0, 0)) (by (with_reducible repeat (first | refine blk_drewN ?_ _ | refine blk_drew ?_ | refine blk_alloc ?_ _)); exact BKgq3.out) hb); clear HB BKv BKgq1 BKgq2 BKgq3; have HB := nb_; have BKv := n0_; have BKgq1 := n1_; have BKgq2 := n2_; have BKgq3 := n3_; clear nb_ n0_ n1_ n2_ n3_ hb; have BKr := Aside0.mk hbox; have GBKr := ng_; clear hbox ng_ hg_gr; have hcv0 : w_gr.cell? ⟨gv, 0, none⟩ = some (.slice A0_0 l0_0.length c0_0) := (blk_cell BKv.out 0).trans rfl; have hcv1 : w_gr.cell? ⟨gv, 1, none⟩ = some (.slice A0_1 l0_1.length c0_1) := (blk_cell BKv.out 1).trans rfl; have hcv2 : w_gr.cell? ⟨gv, 2, none⟩ = some (.int .i64 a0_2) := (blk_cell BKv.out 2).trans rfl; have hcv3 : w_gr.cell? ⟨gv, 3, none⟩ = some (.int .i64 a0_3) := (blk_cell BKv.out 3).trans rfl; have QN := Aside0.mk (show gq1 < gq3 ∧ gq2 < gq3 from ⟨L13.out, L23.out⟩)) | (go_at_call 39; refine (impl_turn.go k w.heap.size gq1 gq2 gq3 _ _ l0_0 _ _ l0_1 a0_2 a0_3 rb t2 m0 m1 m2 m3 r1 r2 r3 r4 _ (below_size HB.out) ?s1 HC0_0.out ?s3 HC0_1.out HV.out HL0.out HL1.out ?sby HV2.out HRES.out).mono ?_; (case s1 => repeat (first | exact (Kd.C_below HR0_0.out HB.out) | (with_reducible refine Kd.C_alloc ?_ _) | (with_reducible refine Kd.C_drewN ?_ _) | (with_reducible refine Kd.C_drew ?_))); (case s3 => repeat (first | exact (Kd.C_below HR0_1.out HB.out) | (with_reducible refine Kd.C_alloc ?_ _) | (with_reducible refine Kd.C_drewN ?_ _) | (with_reducible refine Kd.C_drew ?_))); (case sby => exact (by intro W gw B0 B1 d0 d1 hbW hgw hp h0 h1; exact impl_Windows.closure _ W w.heap.size gq1 gq2 gq3 a1 a2 a3 gw B0 B1 d0 d1 l0_0 l0_1 a0_2 a0_3 rb m0 m1 m2 m3 (by (with_reducible repeat (first | refine blk_drewN ?_ _ | refine blk_drew ?_ | refine blk_alloc ?_ _)); exact BKgq1.out) (by (with_reducible repeat (first | refine blk_drewN ?_ _ | refine blk_drew ?_ | refine blk_alloc ?_ _)); exact BKgq2.out) (by (with_reducible repeat (first | refine blk_drewN ?_ _ | refine blk_drew ?_ | refine blk_alloc ?_ _)); exact BKgq3.out) (Nat.ne_of_lt QN.out.1) (Nat.ne_of_lt QN.out.2) GBKgq3.out (below_size HB.out) _ (Below.refl _ _) hbW hgw hp h0 h1 HF.out)); rintro e w9 ⟨v0, v1, rfl, ho0, ho1, hbb, h26⟩; have BKr9 := Aside0.mk (h26 _ _ (by (with_reducible repeat (first | refine blk_drewN ?_ _ | refine blk_drew ?_ | refine blk_alloc ?_ _)); exact BKr.out)); have HB9 := Aside0.mk (HB.out.trans hbb); have HO0 := Aside0.mk (Kd.R_lower ho0 (below_size HB.out)); have HO1 := Aside0.mk (Kd.R_lower ho1 (below_size HB.out)); obtain ⟨E0, f0, rfl⟩ := Kd.R_slice ho0; obtain ⟨E1, f1, rfl⟩ := Kd.R_slice ho1; clear ho0 ho1 hbb h26 HB BKr; have hcr0 : w9.cell? ⟨gr, 0, none⟩ = some (.slice none 0 0) := (blk_cell BKr9.out 0).trans rfl; have hcr1 : w9.cell? ⟨gr, 1, none⟩ = some (.slice none 0 0) := (blk_cell BKr9.out 1).trans rfl; have hcr2 : w9.cell? ⟨gr, 2, none⟩ = some (.int .i64 0) := (blk_cell BKr9.out 2).trans rfl; have hcr3 : w9.cell? ⟨gr, 3, none⟩ = some (.int .i64 0) := (blk_cell BKr9.out 3).trans rfl; have hcrf0 := blk_frozen BKr9.out 0; have hcrf1 := blk_frozen BKr9.out 1; have hcrf2 := blk_frozen BKr9.out 2; have hcrf3 := blk_frozen BKr9.out 3))
    refine bodyPost_ret (results_cell_row rfl _ _ gr 26 #[.slice E0 r1.length f0, .slice E1 r2.length f1, .int .i64 r3, .int .i64 r4] (0, 0) _ rfl (by (with_reducible repeat (first | refine blk_drewN ?_ _ | refine blk_drew ?_)); refine blk_put (cs := #[.slice E0 r1.length f0, .slice E1 r2.length f1, .int .i64 r3, .int .i64 0]) ?_ 3 _ rfl; (with_reducible repeat (first | refine blk_drewN ?_ _ | refine blk_drew ?_)); refine blk_put (cs := #[.slice E0 r1.length f0, .slice E1 r2.length f1, .int .i64 0, .int .i64 0]) ?_ 2 _ rfl; (with_reducible repeat (first | refine blk_drewN ?_ _ | refine blk_drew ?_)); refine blk_put (cs := #[.slice E0 r1.length f0, .slice none 0 0, .int .i64 0, .int .i64 0]) ?_ 1 _ rfl; (with_reducible repeat (first | refine blk_drewN ?_ _ | refine blk_drew ?_)); refine blk_put (cs := #[.slice none 0 0, .slice none 0 0, .int .i64 0, .int .i64 0]) ?_ 0 _ rfl; (with_reducible repeat (first | refine blk_drewN ?_ _ | refine blk_drew ?_)); exact BKr9.out) Try.underlying26 rfl (by kernel_rfl)) rfl ?_
    exact ⟨_, _, rfl, by (with_reducible repeat (first | apply Kd.R_drewN | apply Kd.R_drew)); exact Kd.R_mono (Kd.R_far (p := ⟨gr, 3, none⟩) (Kd.R_far (p := ⟨gr, 2, none⟩) (Kd.R_far (p := ⟨gr, 1, none⟩) (Kd.R_far (p := ⟨gr, 0, none⟩) (Kd.R_types HO0.out BKr9.out (by decide)) (fun _ hk => hk.2) _) (fun _ hk => hk.2) _) (fun _ hk => hk.2) _) (fun _ hk => hk.2) _) (fun _ hk => hk.1), by (with_reducible repeat (first | apply Kd.R_drewN | apply Kd.R_drew)); exact Kd.R_mono (Kd.R_far (p := ⟨gr, 3, none⟩) (Kd.R_far (p := ⟨gr, 2, none⟩) (Kd.R_far (p := ⟨gr, 1, none⟩) (Kd.R_far (p := ⟨gr, 0, none⟩) (Kd.R_types HO1.out BKr9.out (by decide)) (fun _ hk => hk.2) _) (fun _ hk => hk.2) _) (fun _ hk => hk.2) _) (fun _ hk => hk.2) _) (fun _ hk => hk.1), by repeat (first | (with_reducible first | exact HB9.out | apply pw_below_drewN | apply below_drew1 | refine below_set ?_ GBKr.out) | exact HB9.out)⟩

set_option maxHeartbeats 8000000 in
set_option maxRecDepth 100000 in
theorem impl_Windows.calls (k : Nat) (A0_0 : Option Addr) (c0_0 : Nat) (l0_0 : List Int) (A0_1 : Option Addr) (c0_1 : Nat) (l0_1 : List Int) (a0_2 : Int) (a0_3 : Int) (a1 : Int) (a2 : Int) (a3 : Int) (r1 : List Int) (r2 : List Int) (r3 : Int) (r4 : Int) (w : World) (hr0_0 : Kd.C (Kd.int .i64) w A0_0 l0_0.length l0_0) (hc0_0 : l0_0.length ≤ c0_0) (hr0_1 : Kd.C (Kd.int .i64) w A0_1 l0_1.length l0_1) (hc0_1 : l0_1.length ≤ c0_1) (h : impl_Windows.f k l0_0 l0_1 a0_2 a0_3 a1 a2 a3 = some (r1, r2, r3, r4)) :
    Calls Try.prog 17 #[.agg #[.slice A0_0 l0_0.length c0_0, .slice A0_1 l0_1.length c0_1, .int .i64 a0_2, .int .i64 a0_3], .int .i64 a1, .int .i64 a2, .int .i64 a3] w fun e w' => ∃ v0_ v1_ : Value, e = .returned (.agg #[v0_, v1_, .int .i64 r3, .int .i64 r4]) ∧ Kd.R (Kd.int .i64) 3 w' w.heap.size (fun k_ => some k_ ≠ (v1_ : Value).ownBlock) v0_ r1 ∧ Kd.R (Kd.int .i64) 3 w' w.heap.size (fun k_ => some k_ ≠ (v0_ : Value).ownBlock) v1_ r2 ∧ Below w.heap.size w w' := by
  exact impl_Windows.own k _ _ l0_0 _ _ l0_1 a0_2 a0_3 a1 a2 a3 r1 r2 r3 r4 w hr0_0 hc0_0 hr0_1 hc0_1 h

end Go.Proofs.Ytcpemdedmepfeaa.PFnExactWindows
