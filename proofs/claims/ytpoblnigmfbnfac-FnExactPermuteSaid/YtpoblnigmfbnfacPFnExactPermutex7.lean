-- Printed out of the translation, hand-written contracts beside it; checked by the kernel alone.
import Derived.Test.YtpoblnigmfbnfacPFnExactPermutex0
import Derived.Test.YtpoblnigmfbnfacPFnExactPermutex5
import Derived.Test.YtpoblnigmfbnfacPFnExactPermutex6
namespace Go.Proofs.Ytpoblnigmfbnfac.PFnExactPermute
open Go.RowKit Go.Proofs.YtpoblnigmfbnfacW.PrintWords Go.Proofs.YtpoblnigmfbnfacW.PrintLast Go.Proofs.YtpoblnigmfbnfacW.PrintMore
attribute [local go_sem] max2_int min2_int max_two min_two max_three min_three max_four min_four   -- for this text's walks alone
set_option linter.unusedVariables false
set_option linter.unusedSimpArgs false

/-! ### impl_Permute: function 30 -/
theorem setCell_drewN (w : World) (n : Nat) (a : Addr) (v : Value) : (w.drewN n).setCell a v = (w.setCell a v).drewN n := by
  induction n with
  | zero => rfl
  | succ n ih => rw [← World.drew_drewN, World.setCell_drew, ih, World.drew_drewN]
/-- What is told of a view in memory, behind a closure over it. -/
def ViewBy (w0 W : World) (base B gw : Nat) (rb : Bool) (m0 m1 : List Int) (m2 m3 : Int) (e : Ending) (W' : World) : Prop :=
  ∃ v0 v1 : Value, e = .returned (.bool rb) ∧ W'.heap[gw]? = some (.cells #[v0, v1, .int .i64 m2, .int .i64 m3] 26 (0, 0)) ∧ Kd.R (Kd.int .i64) 3 W' base (fun k_ => some k_ ≠ (v1 : Value).ownBlock) v0 m0 ∧ Kd.R (Kd.int .i64) 3 W' base (fun k_ => some k_ ≠ (v0 : Value).ownBlock) v1 m1 ∧
    (∀ (g : Nat) (cs : Array Value), g ≠ gw → W.heap[g]? = some (.cells cs 26 (0, 0)) → W'.heap[g]? = some (.cells cs 26 (0, 0))) ∧ W.heap.size ≤ W'.heap.size ∧ Below B w0 W'
/-- The view as it was. -/
theorem ViewBy.same {w0 W : World} {base B gw : Nat} {A0 A1 : Option Addr} {d0 d1 : Nat} {l0 l1 : List Int} {o b : Int} (m : Nat) (r : Bool)
    (hp : W.heap[gw]? = some (.cells #[.slice A0 l0.length d0, .slice A1 l1.length d1, .int .i64 o, .int .i64 b] 26 (0, 0)))
    (h0 : Kd.R (Kd.int .i64) 3 W base (fun k_ => some k_ ≠ (.slice A1 l1.length d1 : Value).ownBlock) (.slice A0 l0.length d0) l0) (h1 : Kd.R (Kd.int .i64) 3 W base (fun k_ => some k_ ≠ (.slice A0 l0.length d0 : Value).ownBlock) (.slice A1 l1.length d1) l1) (hB : Below B w0 W) :
    ViewBy w0 W base B gw r l0 l1 o b (.returned (.bool r)) (W.drewN m) :=
  ⟨_, _, rfl, blk_drewN hp m, Kd.R_drewN h0 m, Kd.R_drewN h1 m, fun g cs _ h => blk_drewN h m, Nat.le_refl _, pw_below_drewN hB m⟩
/-- A number of the view, one of each of its rows written. -/
theorem ViewBy.put {w0 W : World} {base B gw g0 g1 d0 d1 : Nat} {l0 l1 : List Int} {o b : Int} (m : Nat) (i x y z : Int) (h0i : 0 ≤ i)
    (hp : W.heap[gw]? = some (.cells #[.slice (some ⟨g0, 0, none⟩) l0.length d0, .slice (some ⟨g1, 0, none⟩) l1.length d1, .int .i64 o, .int .i64 b] 26 (0, 0)))
    (h0 : Kd.R (Kd.int .i64) 3 W base (fun k_ => some k_ ≠ (.slice (some ⟨g1, 0, none⟩) l1.length d1 : Value).ownBlock) (.slice (some ⟨g0, 0, none⟩) l0.length d0) l0) (h1 : Kd.R (Kd.int .i64) 3 W base (fun k_ => some k_ ≠ (.slice (some ⟨g0, 0, none⟩) l0.length d0 : Value).ownBlock) (.slice (some ⟨g1, 0, none⟩) l1.length d1) l1)
    (hB : Below B w0 W) (hbase : B ≤ base) (hgw : B ≤ gw) :
    ViewBy w0 W base B gw true (l0.set i.toNat x) (l1.set i.toNat y) z b (.returned (.bool true)) ((((W.setCell ⟨gw, 2, none⟩ (.int .i64 z)).setCell ⟨g0, i.toNat, none⟩ (.int .i64 x)).setCell ⟨g1, i.toNat, none⟩ (.int .i64 y)).drewN m) := by
  have e0 : g0 ≠ g1 := by
    have := h0.1 g0 rfl
    intro e
    exact this (by rw [e]; rfl)
  obtain ⟨cs0, hc0⟩ := Kd.R_typed h0 g0 rfl
  obtain ⟨cs1, hc1⟩ := Kd.R_typed h1 g1 rfl
  have n0 : gw ≠ g0 := blk_ne hp hc0 (by decide)
  have n1 : gw ≠ g1 := blk_ne hp hc1 (by decide)
  have b0 := Nat.le_trans hbase (Kd.R_base h0 g0 rfl)
  have b1 := Nat.le_trans hbase (Kd.R_base h1 g1 rfl)
  have s0 := Kd.R_set h0 hp (by decide) 2 (.int .i64 z)
  have s1 := Kd.R_set h1 hp (by decide) 2 (.int .i64 z)
  have p0 := (Kd.R_putg s0 i x).1
  have t1 := Kd.R_far (p := ⟨g0, i.toNat, none⟩) s1 (fun k hk e => hk (by rw [e]; rfl)) (.int .i64 x)
  have t0 := Kd.R_far (p := ⟨g1, i.toNat, none⟩) p0 (fun k hk e => hk (by rw [e]; rfl)) (.int .i64 y)
  have p1 := (Kd.R_putg t1 i y).1
  have e00 : (l0.set i.toNat x).length = l0.length := List.length_set ..
  have e11 : (l1.set i.toNat y).length = l1.length := List.length_set ..
  refine ⟨.slice (some ⟨g0, 0, none⟩) l0.length d0, .slice (some ⟨g1, 0, none⟩) l1.length d1, rfl, blk_drewN (blk_far (blk_far (blk_put hp 2 _ rfl) n0 _) n1 _) m, Kd.R_drewN t0 m, Kd.R_drewN p1 m, ?_, ?_, ?_⟩
  · intro g cs hg h
    have m0 : g ≠ g0 := blk_ne h hc0 (by decide)
    have m1 : g ≠ g1 := blk_ne h hc1 (by decide)
    exact blk_drewN (blk_far (blk_far (blk_far h hg _) m0 _) m1 _) m
  · simp
  · exact pw_below_drewN (((hB.setCell (p := ⟨gw, 2, none⟩) hgw _).setCell (p := ⟨g0, i.toNat, none⟩) b0 _).setCell (p := ⟨g1, i.toNat, none⟩) b1 _) m
set_option maxHeartbeats 2000000 in
set_option maxRecDepth 100000 in
theorem impl_turn.no (k g : Nat) (caps : Array Value) (A0 : Option Addr) (c0 : Nat) (l0 : List Int) (A1 : Option Addr) (c1 : Nat) (l1 : List Int) (o b : Int) (w : World)
    (hr0 : Kd.C (Kd.int .i64) w A0 l0.length l0) (hc0 : l0.length ≤ c0) (hr1 : Kd.C (Kd.int .i64) w A1 l1.length l1) (hc1 : l1.length ≤ c1) (hv : impl_ViewOk.f k l0 l1 o b = some false) :
    Calls Try.prog 50 #[.agg #[.slice A0 l0.length c0, .slice A1 l1.length c1, .int .i64 o, .int .i64 b], .func (.func g) #[] caps] w fun e w' => e = .returned (.agg #[.slice none 0 0, .slice none 0 0, .int .i64 0, .int .i64 0]) ∧ Below w.heap.size w w' := by
  have hu26 := Try.underlying26
  have HR0 := Aside0.mk hr0
  have HC0 := Aside0.mk hc0
  have HR1 := Aside0.mk hr1
  have HC1 := Aside0.mk hc1
  have HV := Aside0.mk hv
  clear hr0 hc0 hr1 hc1 hv
  have HB := Aside0.mk (Below.refl w.heap.size w)
  go_enter Try.func50, Try.ntmps50
  go_wp2_with (first | ((with_reducible refine gate_dst (N := 2) rfl ?_); refine box_event ?hg (N := 2) ?hd (cs := #[.slice A0 l0.length c0, .slice A1 l1.length c1, .int .i64 o, .int .i64 b]) (t := 26) ?hr ?_; (case hd => rfl); (case hg => rfl); (case hr => first | (go_simp; done) | (go_simp; rfl)); intro gv hg_gv w_gv hbox hb; have ng_ := Aside0.mk (by rw [hg_gv]; exact (below_size (by repeat (first | (with_reducible first | exact HB.out | apply below_alloc | apply pw_below_drewN | apply below_drew1) | exact HB.out))) : w.heap.size ≤ gv); have nb_ := Aside0.mk (below_step (by repeat (first | (with_reducible first | exact HB.out | apply below_alloc | apply pw_below_drewN | apply below_drew1) | exact HB.out)) hb); clear HB ; have HB := nb_; clear nb_  hb; have BKv := Aside0.mk hbox; have GBKv := ng_; clear hbox ng_ hg_gv) | ((with_reducible refine gate_dst (N := 4) rfl ?_); refine box_event ?hg (N := 4) ?hd (cs := #[.slice none 0 0, .slice none 0 0, .int .i64 0, .int .i64 0]) (t := 26) ?hr ?_; (case hd => rfl); (case hg => rfl); (case hr => first | (go_simp; done) | (go_simp; rfl)); intro gr hg_gr w_gr hbox hb; have ng_ := Aside0.mk (by rw [hg_gr]; exact (below_size (by repeat (first | (with_reducible first | exact HB.out | apply below_alloc | apply pw_below_drewN | apply below_drew1) | exact HB.out))) : w.heap.size ≤ gr); have nb_ := Aside0.mk (below_step (by repeat (first | (with_reducible first | exact HB.out | apply below_alloc | apply pw_below_drewN | apply below_drew1) | exact HB.out)) hb); have n0_ := Aside0.mk (blk_below (g := gv) (o := .cells #[.slice A0 l0.length c0, .slice A1 l1.length c1, .int .i64 o, .int .i64 b] 26 (0, 0)) (by (with_reducible repeat (first | refine blk_drewN ?_ _ | refine blk_drew ?_ | refine blk_alloc ?_ _)); exact BKv.out) hb); clear HB BKv; have HB := nb_; have BKv := n0_; clear nb_ n0_ hb; have BKr := Aside0.mk hbox; have GBKr := ng_; clear hbox ng_ hg_gr; have hcv0 : w_gr.cell? ⟨gv, 0, none⟩ = some (.slice A0 l0.length c0) := (blk_cell BKv.out 0).trans rfl; have hcv1 : w_gr.cell? ⟨gv, 1, none⟩ = some (.slice A1 l1.length c1) := (blk_cell BKv.out 1).trans rfl; have hcv2 : w_gr.cell? ⟨gv, 2, none⟩ = some (.int .i64 o) := (blk_cell BKv.out 2).trans rfl; have hcv3 : w_gr.cell? ⟨gv, 3, none⟩ = some (.int .i64 b) := (blk_cell BKv.out 3).trans rfl) | (go_at_call 80; refine (impl_ViewOk.calls k _ _ l0 _ _ l1 o b false _ ?s1 ?s2 ?s3 ?s4 HV.out).mono ?_; (case s1 => repeat (first | exact (Kd.C_below HR0.out HB.out) | (with_reducible refine Kd.C_alloc ?_ _) | (with_reducible refine Kd.C_drewN ?_ _) | (with_reducible refine Kd.C_drew ?_))); (case s2 => exact HC0.out); (case s3 => repeat (first | exact (Kd.C_below HR1.out HB.out) | (with_reducible refine Kd.C_alloc ?_ _) | (with_reducible refine Kd.C_drewN ?_ _) | (with_reducible refine Kd.C_drew ?_))); (case s4 => exact HC1.out); rintro e w1 ⟨rfl, hb⟩; have nb_ := Aside0.mk (below_step (by repeat (first | (with_reducible first | exact HB.out | apply below_alloc | apply pw_below_drewN | apply below_drew1) | exact HB.out)) hb); have n0_ := Aside0.mk (blk_below (g := gv) (o := .cells #[.slice A0 l0.length c0, .slice A1 l1.length c1, .int .i64 o, .int .i64 b] 26 (0, 0)) (by (with_reducible repeat (first | refine blk_drewN ?_ _ | refine blk_drew ?_ | refine blk_alloc ?_ _)); exact BKv.out) hb); have n1_ := Aside0.mk (blk_below (g := gr) (o := .cells #[.slice none 0 0, .slice none 0 0, .int .i64 0, .int .i64 0] 26 (0, 0)) (by (with_reducible repeat (first | refine blk_drewN ?_ _ | refine blk_drew ?_ | refine blk_alloc ?_ _)); exact BKr.out) hb); clear HB BKv BKr; have HB := nb_; have BKv := n0_; have BKr := n1_; clear nb_ n0_ n1_ hb; clear hcv0 hcv1 hcv2 hcv3; have hcr0 : w1.cell? ⟨gr, 0, none⟩ = some (.slice none 0 0) := (blk_cell BKr.out 0).trans rfl; have hcr1 : w1.cell? ⟨gr, 1, none⟩ = some (.slice none 0 0) := (blk_cell BKr.out 1).trans rfl; have hcr2 : w1.cell? ⟨gr, 2, none⟩ = some (.int .i64 0) := (blk_cell BKr.out 2).trans rfl; have hcr3 : w1.cell? ⟨gr, 3, none⟩ = some (.int .i64 0) := (blk_cell BKr.out 3).trans rfl; have hcrf0 := blk_frozen BKr.out 0; have hcrf1 := blk_frozen BKr.out 1; have hcrf2 := blk_frozen BKr.out 2; have hcrf3 := blk_frozen BKr.out 3))
  refine bodyPost_ret (results_cell_row rfl _ _ gr 26 #[.slice none 0 0, .slice none 0 0, .int .i64 0, .int .i64 0] (0, 0) _ rfl (by (with_reducible repeat (first | refine blk_drewN ?_ _ | refine blk_drew ?_)); refine blk_put (cs := #[.slice none 0 0, .slice none 0 0, .int .i64 0, .int .i64 0]) ?_ 3 _ rfl; (with_reducible repeat (first | refine blk_drewN ?_ _ | refine blk_drew ?_)); refine blk_put (cs := #[.slice none 0 0, .slice none 0 0, .int .i64 0, .int .i64 0]) ?_ 2 _ rfl; (with_reducible repeat (first | refine blk_drewN ?_ _ | refine blk_drew ?_)); refine blk_put (cs := #[.slice none 0 0, .slice none 0 0, .int .i64 0, .int .i64 0]) ?_ 1 _ rfl; (with_reducible repeat (first | refine blk_drewN ?_ _ | refine blk_drew ?_)); refine blk_put (cs := #[.slice none 0 0, .slice none 0 0, .int .i64 0, .int .i64 0]) ?_ 0 _ rfl; (with_reducible repeat (first | refine blk_drewN ?_ _ | refine blk_drew ?_)); exact BKr.out) Try.underlying26 rfl (by kernel_rfl)) rfl ?_
  exact ⟨rfl, by repeat (first | (with_reducible first | exact HB.out | apply below_alloc | apply pw_below_drewN | apply below_drew1 | refine below_set ?_ GBKr.out) | exact HB.out)⟩
theorem isAxis_calls (A : Option Addr) (n c : Nat) (axis : Int) (r : Bool) (w : World) (h : r = decide (0 ≤ axis ∧ axis < (n : Int))) : Calls Try.prog 64 #[.slice A n c, .int .i64 axis] w fun e w' => e = .returned (.bool r) ∧ w = w' := by
  by_cases h0 : 0 ≤ axis
  · have h0b : decide (0 ≤ axis) = true := decide_eq_true h0
    by_cases h1 : axis < (n : Int)
    · have h1b : decide (axis < (n : Int)) = true := decide_eq_true h1
      obtain rfl : r = true := by rw [h]; exact decide_eq_true ⟨h0, h1⟩
      clear h0 h1 h
      go_enter Try.func64, Try.ntmps64
      go_wp2
      go_ret
      exact ⟨rfl, rfl⟩
    · have h1b : decide (axis < (n : Int)) = false := decide_eq_false h1
      obtain rfl : r = false := by rw [h]; exact decide_eq_false (fun z => h1 z.2)
      clear h0 h1 h
      go_enter Try.func64, Try.ntmps64
      go_wp2
      go_ret
      exact ⟨rfl, rfl⟩
  · have h0b : decide (0 ≤ axis) = false := decide_eq_false h0
    obtain rfl : r = false := by rw [h]; exact decide_eq_false (fun z => h0 z.1)
    clear h0 h
    go_enter Try.func64, Try.ntmps64
    go_wp2
    go_ret
    exact ⟨rfl, rfl⟩
set_option maxHeartbeats 8000000 in
set_option maxRecDepth 100000 in
theorem impl_turn.go (k B : Nat) (q1 q2 : Nat) (A0 : Option Addr) (c0 : Nat) (l0 : List Int) (A1 : Option Addr) (c1 : Nat) (l1 : List Int) (o b : Int) (rb t2 : Bool) (m0 m1 : List Int) (m2 m3 : Int) (r0 r1 : List Int) (r2 r3 : Int) (w : World) (hB : B ≤ w.heap.size)
    (hr0 : Kd.C (Kd.int .i64) w A0 l0.length l0) (hc0 : l0.length ≤ c0) (hr1 : Kd.C (Kd.int .i64) w A1 l1.length l1) (hc1 : l1.length ≤ c1)
    (hv : impl_ViewOk.f k l0 l1 o b = some true) (hl0 : slices_Clone_int_int.f l0 = some l0) (hl1 : slices_Clone_int_int.f l1 = some l1)
    (hby : ∀ (W : World) (gw : Nat) (B0 B1 : Option Addr) (d0 d1 : Nat), Below w.heap.size w W → w.heap.size ≤ gw → W.heap[gw]? = some (.cells #[.slice B0 l0.length d0, .slice B1 l1.length d1, .int .i64 o, .int .i64 b] 26 (0, 0)) →
      Kd.R (Kd.int .i64) 3 W w.heap.size (fun k_ => some k_ ≠ (.slice B1 l1.length d1 : Value).ownBlock) (.slice B0 l0.length d0) l0 → Kd.R (Kd.int .i64) 3 W w.heap.size (fun k_ => some k_ ≠ (.slice B0 l0.length d0 : Value).ownBlock) (.slice B1 l1.length d1) l1 →
      Calls Try.prog 63 #[.pointer (some ⟨gw, 0, none⟩), .pointer (some ⟨q1, 0, none⟩), .pointer (some ⟨q2, 0, none⟩)] W fun e W' => ∃ v0 v1 : Value, e = .returned (.bool rb) ∧ W'.heap[gw]? = some (.cells #[v0, v1, .int .i64 m2, .int .i64 m3] 26 (0, 0)) ∧ Kd.R (Kd.int .i64) 3 W' w.heap.size (fun k_ => some k_ ≠ (v1 : Value).ownBlock) v0 m0 ∧ Kd.R (Kd.int .i64) 3 W' w.heap.size (fun k_ => some k_ ≠ (v0 : Value).ownBlock) v1 m1 ∧
        (∀ (g : Nat) (cs : Array Value), g ≠ gw → W.heap[g]? = some (.cells cs 26 (0, 0)) → W'.heap[g]? = some (.cells cs 26 (0, 0))) ∧ W.heap.size ≤ W'.heap.size ∧ Below B w W')
    (hv2 : rb = true → impl_ViewOk.f k m0 m1 m2 m3 = some t2) (hres : (if rb = true then (if t2 = true then (m0, m1, m2, m3) else ([], [], 0, 0)) else ([], [], 0, 0)) = (r0, r1, r2, r3)) :
    Calls Try.prog 50 #[.agg #[.slice A0 l0.length c0, .slice A1 l1.length c1, .int .i64 o, .int .i64 b], .func (.func 63) #[] #[.pointer (some ⟨q1, 0, none⟩), .pointer (some ⟨q2, 0, none⟩)]] w fun e w' => ∃ v0_ v1_ : Value, e = .returned (.agg #[v0_, v1_, .int .i64 r2, .int .i64 r3]) ∧ Kd.R (Kd.int .i64) 3 w' w.heap.size (fun k_ => some k_ ≠ (v1_ : Value).ownBlock) v0_ r0 ∧ Kd.R (Kd.int .i64) 3 w' w.heap.size (fun k_ => some k_ ≠ (v0_ : Value).ownBlock) v1_ r1 ∧ Below B w w' ∧ (∀ (g : Nat) (cs : Array Value), w.heap[g]? = some (.cells cs 26 (0, 0)) → w'.heap[g]? = some (.cells cs 26 (0, 0))) := by
  have hu26 := Try.underlying26
  have HR0 := Aside0.mk hr0
  have HC0 := Aside0.mk hc0
  have HR1 := Aside0.mk hr1
  have HC1 := Aside0.mk hc1
  have HV := Aside0.mk hv
  have HL0 := Aside0.mk hl0
  have HL1 := Aside0.mk hl1
  have HBY := Aside0.mk hby
  have HBS := Aside0.mk hB
  clear hr0 hc0 hr1 hc1 hv hl0 hl1 hby hB
  have HB := Aside0.mk (Below.refl w.heap.size w)
  go_enter Try.func50, Try.ntmps50
  go_upto_region 3 with (first | ((with_reducible refine gate_dst (N := 2) rfl ?_); refine box_event ?hg (N := 2) ?hd (cs := #[.slice A0 l0.length c0, .slice A1 l1.length c1, .int .i64 o, .int .i64 b]) (t := 26) ?hr ?_; (case hd => rfl); (case hg => rfl); (case hr => first | (go_simp; done) | (go_simp; rfl)); intro gv hg_gv w_gv hbox hb; have ng_ := Aside0.mk (by rw [hg_gv]; exact (below_size (by repeat (first | (with_reducible first | exact HB.out | apply below_alloc | apply pw_below_drewN | apply below_drew1) | exact HB.out))) : w.heap.size ≤ gv); have nb_ := Aside0.mk (below_step (by repeat (first | (with_reducible first | exact HB.out | apply below_alloc | apply pw_below_drewN | apply below_drew1) | exact HB.out)) hb); clear HB ; have HB := nb_; clear nb_  hb; have BKv := Aside0.mk hbox; have GBKv := ng_; clear hbox ng_ hg_gv) | ((with_reducible refine gate_dst (N := 4) rfl ?_); refine box_event ?hg (N := 4) ?hd (cs := #[.slice none 0 0, .slice none 0 0, .int .i64 0, .int .i64 0]) (t := 26) ?hr ?_; (case hd => rfl); (case hg => rfl); (case hr => first | (go_simp; done) | (go_simp; rfl)); intro gr hg_gr w_gr hbox hb; have ng_ := Aside0.mk (by rw [hg_gr]; exact (below_size (by repeat (first | (with_reducible first | exact HB.out | apply below_alloc | apply pw_below_drewN | apply below_drew1) | exact HB.out))) : w.heap.size ≤ gr); have nb_ := Aside0.mk (below_step (by repeat (first | (with_reducible first | exact HB.out | apply below_alloc | apply pw_below_drewN | apply below_drew1) | exact HB.out)) hb); have n0_ := Aside0.mk (blk_below (g := gv) (o := .cells #[.slice A0 l0.length c0, .slice A1 l1.length c1, .int .i64 o, .int .i64 b] 26 (0, 0)) (by (with_reducible repeat (first | refine blk_drewN ?_ _ | refine blk_drew ?_ | refine blk_alloc ?_ _)); exact BKv.out) hb); clear HB BKv; have HB := nb_; have BKv := n0_; clear nb_ n0_ hb; have BKr := Aside0.mk hbox; have GBKr := ng_; clear hbox ng_ hg_gr; have hcv0 : w_gr.cell? ⟨gv, 0, none⟩ = some (.slice A0 l0.length c0) := (blk_cell BKv.out 0).trans rfl; have hcv1 : w_gr.cell? ⟨gv, 1, none⟩ = some (.slice A1 l1.length c1) := (blk_cell BKv.out 1).trans rfl; have hcv2 : w_gr.cell? ⟨gv, 2, none⟩ = some (.int .i64 o) := (blk_cell BKv.out 2).trans rfl; have hcv3 : w_gr.cell? ⟨gv, 3, none⟩ = some (.int .i64 b) := (blk_cell BKv.out 3).trans rfl) | (go_at_call 80; refine (impl_ViewOk.calls k _ _ l0 _ _ l1 o b true _ ?s1 ?s2 ?s3 ?s4 HV.out).mono ?_; (case s1 => repeat (first | exact (Kd.C_below HR0.out HB.out) | (with_reducible refine Kd.C_alloc ?_ _) | (with_reducible refine Kd.C_drewN ?_ _) | (with_reducible refine Kd.C_drew ?_))); (case s2 => exact HC0.out); (case s3 => repeat (first | exact (Kd.C_below HR1.out HB.out) | (with_reducible refine Kd.C_alloc ?_ _) | (with_reducible refine Kd.C_drewN ?_ _) | (with_reducible refine Kd.C_drew ?_))); (case s4 => exact HC1.out); rintro e w1 ⟨rfl, hb⟩; have nb_ := Aside0.mk (below_step (by repeat (first | (with_reducible first | exact HB.out | apply below_alloc | apply pw_below_drewN | apply below_drew1) | exact HB.out)) hb); have n0_ := Aside0.mk (blk_below (g := gv) (o := .cells #[.slice A0 l0.length c0, .slice A1 l1.length c1, .int .i64 o, .int .i64 b] 26 (0, 0)) (by (with_reducible repeat (first | refine blk_drewN ?_ _ | refine blk_drew ?_ | refine blk_alloc ?_ _)); exact BKv.out) hb); have n1_ := Aside0.mk (blk_below (g := gr) (o := .cells #[.slice none 0 0, .slice none 0 0, .int .i64 0, .int .i64 0] 26 (0, 0)) (by (with_reducible repeat (first | refine blk_drewN ?_ _ | refine blk_drew ?_ | refine blk_alloc ?_ _)); exact BKr.out) hb); clear HB BKv BKr; have HB := nb_; have BKv := n0_; have BKr := n1_; clear nb_ n0_ n1_ hb; clear hcv0 hcv1 hcv2 hcv3; have hcv0 : w1.cell? ⟨gv, 0, none⟩ = some (.slice A0 l0.length c0) := (blk_cell BKv.out 0).trans rfl; have hcv1 : w1.cell? ⟨gv, 1, none⟩ = some (.slice A1 l1.length c1) := (blk_cell BKv.out 1).trans rfl; have hcv2 : w1.cell? ⟨gv, 2, none⟩ = some (.int .i64 o) := (blk_cell BKv.out 2).trans rfl; have hcv3 : w1.cell? ⟨gv, 3, none⟩ = some (.int .i64 b) := (blk_cell BKv.out 3).trans rfl))
  (try simp only [Act.put, List.setIfInBounds_toArray, List.set_cons_zero, List.set_cons_succ])
  go_cut [5] (fun v5 wc => ∃ (gw : Nat) (B0 B1 : Option Addr) (d0 d1 : Nat), v5 = .pointer (some ⟨gw, 0, none⟩) ∧ Aside0 (wc.heap[gw]? = some (.cells #[.slice B0 l0.length d0, .slice B1 l1.length d1, .int .i64 o, .int .i64 b] 26 (0, 0))) ∧ Aside0 (Kd.R (Kd.int .i64) 3 wc w.heap.size (fun k_ => some k_ ≠ (.slice B1 l1.length d1 : Value).ownBlock) (.slice B0 l0.length d0) l0) ∧ Aside0 (Kd.R (Kd.int .i64) 3 wc w.heap.size (fun k_ => some k_ ≠ (.slice B0 l0.length d0 : Value).ownBlock) (.slice B1 l1.length d1) l1) ∧ Aside0 (w.heap.size ≤ gw) ∧ Aside0 (gw ≠ gr) ∧ Aside0 (wc.heap[gr]? = some (.cells #[.slice none 0 0, .slice none 0 0, .int .i64 0, .int .i64 0] 26 (0, 0))) ∧ Aside0 (Below w.heap.size w wc))
  case first =>
    go_region_held3 (fun w' => w'.cell? ⟨gv, 0, none⟩ = some (.slice A0 l0.length c0) ∧ w'.cell? ⟨gv, 1, none⟩ = some (.slice A1 l1.length c1) ∧ w'.cell? ⟨gv, 2, none⟩ = some (.int .i64 o) ∧ w'.cell? ⟨gv, 3, none⟩ = some (.int .i64 b)) (first | (exact ⟨(blk_cell (by (with_reducible repeat (first | refine blk_drewN ?_ _ | refine blk_drew ?_ | refine blk_alloc ?_ _)); exact BKv.out) 0).trans rfl, (blk_cell (by (with_reducible repeat (first | refine blk_drewN ?_ _ | refine blk_drew ?_ | refine blk_alloc ?_ _)); exact BKv.out) 1).trans rfl, (blk_cell (by (with_reducible repeat (first | refine blk_drewN ?_ _ | refine blk_drew ?_ | refine blk_alloc ?_ _)); exact BKv.out) 2).trans rfl, (blk_cell (by (with_reducible repeat (first | refine blk_drewN ?_ _ | refine blk_drew ?_ | refine blk_alloc ?_ _)); exact BKv.out) 3).trans rfl⟩) | (exact ⟨(blk_cell (blk_far (p := ⟨_, 3, none⟩) (blk_far (p := ⟨_, 2, none⟩) (blk_far (p := ⟨_, 1, none⟩) (blk_far (p := ⟨_, 0, none⟩) BKv.out HZN.out.1 _) HZN.out.1 _) HZN.out.1 _) HZN.out.1 _) 0).trans rfl, (blk_cell (blk_far (p := ⟨_, 3, none⟩) (blk_far (p := ⟨_, 2, none⟩) (blk_far (p := ⟨_, 1, none⟩) (blk_far (p := ⟨_, 0, none⟩) BKv.out HZN.out.1 _) HZN.out.1 _) HZN.out.1 _) HZN.out.1 _) 1).trans rfl, (blk_cell (blk_far (p := ⟨_, 3, none⟩) (blk_far (p := ⟨_, 2, none⟩) (blk_far (p := ⟨_, 1, none⟩) (blk_far (p := ⟨_, 0, none⟩) BKv.out HZN.out.1 _) HZN.out.1 _) HZN.out.1 _) HZN.out.1 _) 2).trans rfl, (blk_cell (blk_far (p := ⟨_, 3, none⟩) (blk_far (p := ⟨_, 2, none⟩) (blk_far (p := ⟨_, 1, none⟩) (blk_far (p := ⟨_, 0, none⟩) BKv.out HZN.out.1 _) HZN.out.1 _) HZN.out.1 _) HZN.out.1 _) 3).trans rfl⟩) | go_keep) (first | (go_at_call_of 53 (Value.slice A0 l0.length c0); refine (slices_Clone_int_int.calls _ _ l0 l0 _ ?s1 HC0.out HL0.out).mono ?_; (case s1 => repeat (first | exact (Kd.C_below HR0.out HB.out) | (with_reducible refine Kd.C_alloc ?_ _) | (with_reducible refine Kd.C_drewN ?_ _) | (with_reducible refine Kd.C_drew ?_))); rintro e w2 ⟨v0, rfl, ho0, hb⟩; obtain ⟨B0, d0, rfl⟩ := Kd.R_slice ho0; (first | (have hz_ := blk_below (o := .cells #[.slice none 0 0, .slice none 0 0, .int .i64 0, .int .i64 0] 26 (0, 0)) HZ.out hb; clear HZ; have HZ := Aside0.mk hz_; clear hz_) | (have hz_ := blk_below (o := .cells #[.slice none 0 0, .slice none 0 0, .int .i64 0, .int .i64 0] 26 (0, 0)) (by (with_reducible repeat (first | refine blk_drewN ?_ _ | refine blk_drew ?_)); exact heap_alloc_new _ _) hb; have hzn_ := And.intro (Nat.ne_of_lt (blk_lt BKv.out)) (Nat.ne_of_lt (blk_lt BKr.out)); have hzl_ := below_size HB.out; have HZ := Aside0.mk hz_; have HZN := Aside0.mk hzn_; have HZL := Aside0.mk hzl_; clear hz_ hzn_ hzl_) | skip); have nb_ := Aside0.mk (below_step (by repeat (first | (with_reducible first | exact HB.out | apply below_alloc | apply pw_below_drewN | apply below_drew1) | exact HB.out)) hb); have n0_ := Aside0.mk (blk_below (g := gv) (o := .cells #[.slice A0 l0.length c0, .slice A1 l1.length c1, .int .i64 o, .int .i64 b] 26 (0, 0)) (by (with_reducible repeat (first | refine blk_drewN ?_ _ | refine blk_drew ?_ | refine blk_alloc ?_ _)); exact BKv.out) hb); have n1_ := Aside0.mk (blk_below (g := gr) (o := .cells #[.slice none 0 0, .slice none 0 0, .int .i64 0, .int .i64 0] 26 (0, 0)) (by (with_reducible repeat (first | refine blk_drewN ?_ _ | refine blk_drew ?_ | refine blk_alloc ?_ _)); exact BKr.out) hb); have no_ := Aside0.mk (Kd.R_lower ho0 (below_size (by repeat (first | (with_reducible first | exact HB.out | apply below_alloc | apply pw_below_drewN | apply below_drew1) | exact HB.out)))); clear ho0 ; have HO0 := no_; clear HB BKv BKr; have HB := nb_; have BKv := n0_; have BKr := n1_; clear nb_ n0_ n1_ hb) | (go_at_call_of 53 (Value.slice A1 l1.length c1); refine (slices_Clone_int_int.calls _ _ l1 l1 _ ?s1 HC1.out HL1.out).mono ?_; (case s1 => repeat (first | exact (Kd.C_below HR1.out HB.out) | (with_reducible refine Kd.C_alloc ?_ _) | (with_reducible refine Kd.C_drewN ?_ _) | (with_reducible refine Kd.C_drew ?_))); rintro e w3 ⟨v1, rfl, ho1, hb⟩; obtain ⟨B1, d1, rfl⟩ := Kd.R_slice ho1; (first | (have hz_ := blk_below (o := .cells #[.slice none 0 0, .slice none 0 0, .int .i64 0, .int .i64 0] 26 (0, 0)) HZ.out hb; clear HZ; have HZ := Aside0.mk hz_; clear hz_) | (have hz_ := blk_below (o := .cells #[.slice none 0 0, .slice none 0 0, .int .i64 0, .int .i64 0] 26 (0, 0)) (by (with_reducible repeat (first | refine blk_drewN ?_ _ | refine blk_drew ?_)); exact heap_alloc_new _ _) hb; have hzn_ := And.intro (Nat.ne_of_lt (blk_lt BKv.out)) (Nat.ne_of_lt (blk_lt BKr.out)); have hzl_ := below_size HB.out; have HZ := Aside0.mk hz_; have HZN := Aside0.mk hzn_; have HZL := Aside0.mk hzl_; clear hz_ hzn_ hzl_) | skip); have nb_ := Aside0.mk (below_step (by repeat (first | (with_reducible first | exact HB.out | apply below_alloc | apply pw_below_drewN | apply below_drew1) | exact HB.out)) hb); have n0_ := Aside0.mk (blk_below (g := gv) (o := .cells #[.slice A0 l0.length c0, .slice A1 l1.length c1, .int .i64 o, .int .i64 b] 26 (0, 0)) (by (with_reducible repeat (first | refine blk_drewN ?_ _ | refine blk_drew ?_ | refine blk_alloc ?_ _)); exact BKv.out) hb); have n1_ := Aside0.mk (blk_below (g := gr) (o := .cells #[.slice none 0 0, .slice none 0 0, .int .i64 0, .int .i64 0] 26 (0, 0)) (by (with_reducible repeat (first | refine blk_drewN ?_ _ | refine blk_drew ?_ | refine blk_alloc ?_ _)); exact BKr.out) hb); have nr_ := Aside0.mk (Kd.R_elder (by (with_reducible repeat (first | apply Kd.R_alloc | apply Kd.R_drewN | apply Kd.R_drew)); exact HO0.out) ho1 hb); replace ho1 := Kd.R_newR ho1 (by (with_reducible repeat (first | apply Kd.R_alloc | apply Kd.R_drewN | apply Kd.R_drew)); exact HO0.out); clear HO0; have HO0 := nr_; have no_ := Aside0.mk (Kd.R_lower ho1 (below_size (by repeat (first | (with_reducible first | exact HB.out | apply below_alloc | apply pw_below_drewN | apply below_drew1) | exact HB.out)))); clear ho1 ; have HO1 := no_; clear HB BKv BKr; have HB := nb_; have BKv := n0_; have BKr := n1_; clear nb_ n0_ n1_ hb; (try (have hz0 : w3.cell? ⟨_, 0, none⟩ = some (Value.slice none 0 0) := (blk_cell HZ.out 0).trans rfl; have hzf0 := blk_frozen HZ.out 0; have hz1 : w3.cell? ⟨_, 1, none⟩ = some (Value.slice none 0 0) := (blk_cell HZ.out 1).trans rfl; have hzf1 := blk_frozen HZ.out 1; have hz2 : w3.cell? ⟨_, 2, none⟩ = some (Value.int .i64 0) := (blk_cell HZ.out 2).trans rfl; have hzf2 := blk_frozen HZ.out 2; have hz3 : w3.cell? ⟨_, 3, none⟩ = some (Value.int .i64 0) := (blk_cell HZ.out 3).trans rfl; have hzf3 := blk_frozen HZ.out 3))))
    · go_wp2
      go_meet
      case rel => exact ⟨w3.heap.size, B0, B1, d0, d1, rfl, ⟨by (with_reducible repeat (first | refine blk_drewN ?_ _ | refine blk_drew ?_)); exact heap_alloc_new _ _⟩, ⟨by (with_reducible repeat (first | apply Kd.R_alloc | apply Kd.R_drewN | apply Kd.R_drew)); exact Kd.R_mono HO0.out (fun _ hk => hk.2)⟩, ⟨by (with_reducible repeat (first | apply Kd.R_alloc | apply Kd.R_drewN | apply Kd.R_drew)); exact Kd.R_mono HO1.out (fun _ hk => hk.2)⟩, ⟨below_size HB.out⟩, ⟨(Nat.ne_of_lt (blk_lt BKr.out)).symm⟩, ⟨(by (with_reducible repeat (first | refine blk_drewN ?_ _ | refine blk_drew ?_ | refine blk_alloc ?_ _)); exact BKr.out)⟩, ⟨by repeat (first | (with_reducible first | exact HB.out | apply below_alloc | apply pw_below_drewN | apply below_drew1) | exact HB.out)⟩⟩
    all_goals
      go_wp2
      go_meet
      case rel => exact ⟨_, B0, B1, d0, d1, rfl, ⟨by (with_reducible repeat (first | refine blk_drewN ?_ _ | refine blk_drew ?_)); refine blk_put (cs := #[.slice B0 l0.length d0, .slice B1 l1.length d1, .int .i64 o, .int .i64 0]) ?_ 3 _ rfl; refine blk_put (cs := #[.slice B0 l0.length d0, .slice B1 l1.length d1, .int .i64 0, .int .i64 0]) ?_ 2 _ rfl; refine blk_put (cs := #[.slice B0 l0.length d0, .slice none 0 0, .int .i64 0, .int .i64 0]) ?_ 1 _ rfl; refine blk_put (cs := #[.slice none 0 0, .slice none 0 0, .int .i64 0, .int .i64 0]) ?_ 0 _ rfl; exact HZ.out⟩, ⟨by (with_reducible repeat (first | apply Kd.R_alloc | apply Kd.R_drewN | apply Kd.R_drew)); exact Kd.R_mono (Kd.R_far (p := ⟨_, 3, none⟩) (Kd.R_far (p := ⟨_, 2, none⟩) (Kd.R_far (p := ⟨_, 1, none⟩) (Kd.R_far (p := ⟨_, 0, none⟩) (Kd.R_types HO0.out HZ.out (by decide)) (fun _ hk => hk.2) _) (fun _ hk => hk.2) _) (fun _ hk => hk.2) _) (fun _ hk => hk.2) _) (fun _ hk => hk.1.2)⟩, ⟨by (with_reducible repeat (first | apply Kd.R_alloc | apply Kd.R_drewN | apply Kd.R_drew)); exact Kd.R_mono (Kd.R_far (p := ⟨_, 3, none⟩) (Kd.R_far (p := ⟨_, 2, none⟩) (Kd.R_far (p := ⟨_, 1, none⟩) (Kd.R_far (p := ⟨_, 0, none⟩) (Kd.R_types HO1.out HZ.out (by decide)) (fun _ hk => hk.2) _) (fun _ hk => hk.2) _) (fun _ hk => hk.2) _) (fun _ hk => hk.2) _) (fun _ hk => hk.1.2)⟩, ⟨HZL.out⟩, ⟨HZN.out.2.symm⟩, ⟨by (with_reducible repeat (first | refine blk_drewN ?_ _ | refine blk_drew ?_)); exact blk_far (p := ⟨_, 3, none⟩) (blk_far (p := ⟨_, 2, none⟩) (blk_far (p := ⟨_, 1, none⟩) (blk_far (p := ⟨_, 0, none⟩) BKr.out HZN.out.2 _) HZN.out.2 _) HZN.out.2 _) HZN.out.2 _⟩, ⟨by repeat (first | (with_reducible first | exact HB.out | apply below_alloc | apply pw_below_drewN | apply below_drew1 | refine below_set ?_ HZL.out) | exact HB.out)⟩⟩
  case rest =>
    obtain ⟨gw, B0, B1, d0, d1, rfl, BKw, HO0, HO1, GW, GWR, BKr, HB⟩ := hcut
    try clear hcv0 hcv1 hcv2 hcv3
    have GRB := Aside0.mk (Nat.le_trans HBS.out GBKr.out)
    cases rb with
    | false =>
      obtain ⟨rfl, rfl, rfl, rfl⟩ : r0 = [] ∧ r1 = [] ∧ r2 = 0 ∧ r3 = 0 := by simpa using hres.symm
      go_wp2_with (first | (go_at_call 63; refine (HBY.out _ gw B0 B1 d0 d1 HB.out GW.out BKw.out HO0.out HO1.out).mono ?_; rintro e w4 ⟨v0, v1, rfl, hw, ho0, ho1, hk, hsz, hbb⟩; obtain ⟨E0, f0, rfl⟩ := Kd.R_slice ho0; obtain ⟨E1, f1, rfl⟩ := Kd.R_slice ho1; have n0_ := Aside0.mk (hk gr _ GWR.out.symm BKr.out); have h26_ : ∀ (g : Nat) (cs : Array Value), w.heap[g]? = some (.cells cs 26 (0, 0)) → w4.heap[g]? = some (.cells cs 26 (0, 0)) := fun g cs h_ => hk g cs (by have := blk_lt h_; have := GW.out; omega) (blk_below h_ HB.out); have H26 := Aside0.mk h26_; clear h26_; have HSZ := Aside0.mk (Nat.le_trans (Nat.le_trans HBS.out (below_size HB.out)) hsz); clear HB BKw HO0 HO1 BKr hk hsz; have HBB := Aside0.mk hbb; have BKw := Aside0.mk hw; have HO0 := Aside0.mk ho0; have HO1 := Aside0.mk ho1; have BKr := n0_; clear n0_ hbb hw ho0 ho1; have hcw0 : w4.cell? ⟨gw, 0, none⟩ = some (.slice E0 m0.length f0) := (blk_cell BKw.out 0).trans rfl; have hcw1 : w4.cell? ⟨gw, 1, none⟩ = some (.slice E1 m1.length f1) := (blk_cell BKw.out 1).trans rfl; have hcw2 : w4.cell? ⟨gw, 2, none⟩ = some (.int .i64 m2) := (blk_cell BKw.out 2).trans rfl; have hcw3 : w4.cell? ⟨gw, 3, none⟩ = some (.int .i64 m3) := (blk_cell BKw.out 3).trans rfl; have hcr0 : w4.cell? ⟨gr, 0, none⟩ = some (.slice none 0 0) := (blk_cell BKr.out 0).trans rfl; have hcr1 : w4.cell? ⟨gr, 1, none⟩ = some (.slice none 0 0) := (blk_cell BKr.out 1).trans rfl; have hcr2 : w4.cell? ⟨gr, 2, none⟩ = some (.int .i64 0) := (blk_cell BKr.out 2).trans rfl; have hcr3 : w4.cell? ⟨gr, 3, none⟩ = some (.int .i64 0) := (blk_cell BKr.out 3).trans rfl; have hcrf0 := blk_frozen BKr.out 0; have hcrf1 := blk_frozen BKr.out 1; have hcrf2 := blk_frozen BKr.out 2; have hcrf3 := blk_frozen BKr.out 3))
      refine bodyPost_ret (results_cell_row rfl _ _ gr 26 #[.slice none 0 0, .slice none 0 0, .int .i64 0, .int .i64 0] (0, 0) _ rfl (by (with_reducible repeat (first | refine blk_drewN ?_ _ | refine blk_drew ?_)); refine blk_put (cs := #[.slice none 0 0, .slice none 0 0, .int .i64 0, .int .i64 0]) ?_ 3 _ rfl; (with_reducible repeat (first | refine blk_drewN ?_ _ | refine blk_drew ?_)); refine blk_put (cs := #[.slice none 0 0, .slice none 0 0, .int .i64 0, .int .i64 0]) ?_ 2 _ rfl; (with_reducible repeat (first | refine blk_drewN ?_ _ | refine blk_drew ?_)); refine blk_put (cs := #[.slice none 0 0, .slice none 0 0, .int .i64 0, .int .i64 0]) ?_ 1 _ rfl; (with_reducible repeat (first | refine blk_drewN ?_ _ | refine blk_drew ?_)); refine blk_put (cs := #[.slice none 0 0, .slice none 0 0, .int .i64 0, .int .i64 0]) ?_ 0 _ rfl; (with_reducible repeat (first | refine blk_drewN ?_ _ | refine blk_drew ?_)); exact BKr.out) Try.underlying26 rfl (by kernel_rfl)) rfl ?_
      exact ⟨_, _, rfl, Kd.R_nil _ _ _ _ _, Kd.R_nil _ _ _ _ _, by (with_reducible repeat (first | exact HBB.out | apply pw_below_drewN | apply below_drew | (refine Below.setCell ?_ GRB.out _))), fun g cs h_ => by have hne_ : g ≠ gr := (by have := blk_lt h_; have := GBKr.out; omega); (with_reducible repeat (first | refine blk_drewN ?_ _ | refine blk_drew ?_ | refine blk_far ?_ hne_ _)); exact H26.out g cs h_⟩
    | true =>
      have HV2 := Aside0.mk (hv2 rfl)
      clear hv2
      cases t2 with
      | false =>
      obtain ⟨rfl, rfl, rfl, rfl⟩ : r0 = [] ∧ r1 = [] ∧ r2 = 0 ∧ r3 = 0 := by simpa using hres.symm
      go_wp2_with (first | (go_at_call 63; refine (HBY.out _ gw B0 B1 d0 d1 HB.out GW.out BKw.out HO0.out HO1.out).mono ?_; rintro e w4 ⟨v0, v1, rfl, hw, ho0, ho1, hk, hsz, hbb⟩; obtain ⟨E0, f0, rfl⟩ := Kd.R_slice ho0; obtain ⟨E1, f1, rfl⟩ := Kd.R_slice ho1; have n0_ := Aside0.mk (hk gr _ GWR.out.symm BKr.out); have h26_ : ∀ (g : Nat) (cs : Array Value), w.heap[g]? = some (.cells cs 26 (0, 0)) → w4.heap[g]? = some (.cells cs 26 (0, 0)) := fun g cs h_ => hk g cs (by have := blk_lt h_; have := GW.out; omega) (blk_below h_ HB.out); have H26 := Aside0.mk h26_; clear h26_; have HSZ := Aside0.mk (Nat.le_trans (Nat.le_trans HBS.out (below_size HB.out)) hsz); clear HB BKw HO0 HO1 BKr hk hsz; have HBB := Aside0.mk hbb; have BKw := Aside0.mk hw; have HO0 := Aside0.mk ho0; have HO1 := Aside0.mk ho1; have BKr := n0_; clear n0_ hbb hw ho0 ho1; have hcw0 : w4.cell? ⟨gw, 0, none⟩ = some (.slice E0 m0.length f0) := (blk_cell BKw.out 0).trans rfl; have hcw1 : w4.cell? ⟨gw, 1, none⟩ = some (.slice E1 m1.length f1) := (blk_cell BKw.out 1).trans rfl; have hcw2 : w4.cell? ⟨gw, 2, none⟩ = some (.int .i64 m2) := (blk_cell BKw.out 2).trans rfl; have hcw3 : w4.cell? ⟨gw, 3, none⟩ = some (.int .i64 m3) := (blk_cell BKw.out 3).trans rfl; have hcr0 : w4.cell? ⟨gr, 0, none⟩ = some (.slice none 0 0) := (blk_cell BKr.out 0).trans rfl; have hcr1 : w4.cell? ⟨gr, 1, none⟩ = some (.slice none 0 0) := (blk_cell BKr.out 1).trans rfl; have hcr2 : w4.cell? ⟨gr, 2, none⟩ = some (.int .i64 0) := (blk_cell BKr.out 2).trans rfl; have hcr3 : w4.cell? ⟨gr, 3, none⟩ = some (.int .i64 0) := (blk_cell BKr.out 3).trans rfl; have hcrf0 := blk_frozen BKr.out 0; have hcrf1 := blk_frozen BKr.out 1; have hcrf2 := blk_frozen BKr.out 2; have hcrf3 := blk_frozen BKr.out 3) | (go_at_call 80; refine (impl_ViewOk.calls k _ _ m0 _ _ m1 m2 m3 _ _ ?s1 ?s2 ?s3 ?s4 HV2.out).mono ?_; (case s1 => exact (Kd.R_reads' HO0.out).2.2); (case s2 => exact (Kd.R_reads' HO0.out).2.1); (case s3 => exact (Kd.R_reads' HO1.out).2.2); (case s4 => exact (Kd.R_reads' HO1.out).2.1); rintro e w5 ⟨rfl, hb⟩; have n0_ := Aside0.mk (Kd.R_below HO0.out hb); have n1_ := Aside0.mk (Kd.R_below HO1.out hb); have n2_ := Aside0.mk (blk_below BKw.out hb); have n3_ := Aside0.mk (blk_below BKr.out hb); have n4_ := Aside0.mk (below_then HBB.out HSZ.out hb); have n5_ : Aside0 (∀ (g : Nat) (cs : Array Value), w.heap[g]? = some (.cells cs 26 (0, 0)) → w5.heap[g]? = some (.cells cs 26 (0, 0))) := ⟨fun g cs h_ => blk_below (H26.out g cs h_) hb⟩; clear H26; have H26 := n5_; clear n5_; clear HO0 HO1 BKw BKr HBB hb hcw0 hcw1 hcw2 hcw3 hcr0 hcr1 hcr2 hcr3 hcrf0 hcrf1 hcrf2 hcrf3; have HO0 := n0_; have HO1 := n1_; have BKw := n2_; have BKr := n3_; have HBB := n4_; clear n0_ n1_ n2_ n3_ n4_; have hcw0 : w5.cell? ⟨gw, 0, none⟩ = some (.slice E0 m0.length f0) := (blk_cell BKw.out 0).trans rfl; have hcw1 : w5.cell? ⟨gw, 1, none⟩ = some (.slice E1 m1.length f1) := (blk_cell BKw.out 1).trans rfl; have hcw2 : w5.cell? ⟨gw, 2, none⟩ = some (.int .i64 m2) := (blk_cell BKw.out 2).trans rfl; have hcw3 : w5.cell? ⟨gw, 3, none⟩ = some (.int .i64 m3) := (blk_cell BKw.out 3).trans rfl; have hcr0 : w5.cell? ⟨gr, 0, none⟩ = some (.slice none 0 0) := (blk_cell BKr.out 0).trans rfl; have hcr1 : w5.cell? ⟨gr, 1, none⟩ = some (.slice none 0 0) := (blk_cell BKr.out 1).trans rfl; have hcr2 : w5.cell? ⟨gr, 2, none⟩ = some (.int .i64 0) := (blk_cell BKr.out 2).trans rfl; have hcr3 : w5.cell? ⟨gr, 3, none⟩ = some (.int .i64 0) := (blk_cell BKr.out 3).trans rfl; have hcrf0 := blk_frozen BKr.out 0; have hcrf1 := blk_frozen BKr.out 1; have hcrf2 := blk_frozen BKr.out 2; have hcrf3 := blk_frozen BKr.out 3))
      refine bodyPost_ret (results_cell_row rfl _ _ gr 26 #[.slice none 0 0, .slice none 0 0, .int .i64 0, .int .i64 0] (0, 0) _ rfl (by (with_reducible repeat (first | refine blk_drewN ?_ _ | refine blk_drew ?_)); refine blk_put (cs := #[.slice none 0 0, .slice none 0 0, .int .i64 0, .int .i64 0]) ?_ 3 _ rfl; (with_reducible repeat (first | refine blk_drewN ?_ _ | refine blk_drew ?_)); refine blk_put (cs := #[.slice none 0 0, .slice none 0 0, .int .i64 0, .int .i64 0]) ?_ 2 _ rfl; (with_reducible repeat (first | refine blk_drewN ?_ _ | refine blk_drew ?_)); refine blk_put (cs := #[.slice none 0 0, .slice none 0 0, .int .i64 0, .int .i64 0]) ?_ 1 _ rfl; (with_reducible repeat (first | refine blk_drewN ?_ _ | refine blk_drew ?_)); refine blk_put (cs := #[.slice none 0 0, .slice none 0 0, .int .i64 0, .int .i64 0]) ?_ 0 _ rfl; (with_reducible repeat (first | refine blk_drewN ?_ _ | refine blk_drew ?_)); exact BKr.out) Try.underlying26 rfl (by kernel_rfl)) rfl ?_
      exact ⟨_, _, rfl, Kd.R_nil _ _ _ _ _, Kd.R_nil _ _ _ _ _, by (with_reducible repeat (first | exact HBB.out | apply pw_below_drewN | apply below_drew | (refine Below.setCell ?_ GRB.out _))), fun g cs h_ => by have hne_ : g ≠ gr := (by have := blk_lt h_; have := GBKr.out; omega); (with_reducible repeat (first | refine blk_drewN ?_ _ | refine blk_drew ?_ | refine blk_far ?_ hne_ _)); exact H26.out g cs h_⟩
      | true =>
      obtain ⟨rfl, rfl, rfl, rfl⟩ : m0 = r0 ∧ m1 = r1 ∧ m2 = r2 ∧ m3 = r3 := by simpa using hres
      go_wp2_with (first | (go_at_call 63; refine (HBY.out _ gw B0 B1 d0 d1 HB.out GW.out BKw.out HO0.out HO1.out).mono ?_; rintro e w4 ⟨v0, v1, rfl, hw, ho0, ho1, hk, hsz, hbb⟩; obtain ⟨E0, f0, rfl⟩ := Kd.R_slice ho0; obtain ⟨E1, f1, rfl⟩ := Kd.R_slice ho1; have n0_ := Aside0.mk (hk gr _ GWR.out.symm BKr.out); have h26_ : ∀ (g : Nat) (cs : Array Value), w.heap[g]? = some (.cells cs 26 (0, 0)) → w4.heap[g]? = some (.cells cs 26 (0, 0)) := fun g cs h_ => hk g cs (by have := blk_lt h_; have := GW.out; omega) (blk_below h_ HB.out); have H26 := Aside0.mk h26_; clear h26_; have HSZ := Aside0.mk (Nat.le_trans (Nat.le_trans HBS.out (below_size HB.out)) hsz); clear HB BKw HO0 HO1 BKr hk hsz; have HBB := Aside0.mk hbb; have BKw := Aside0.mk hw; have HO0 := Aside0.mk ho0; have HO1 := Aside0.mk ho1; have BKr := n0_; clear n0_ hbb hw ho0 ho1; have hcw0 : w4.cell? ⟨gw, 0, none⟩ = some (.slice E0 m0.length f0) := (blk_cell BKw.out 0).trans rfl; have hcw1 : w4.cell? ⟨gw, 1, none⟩ = some (.slice E1 m1.length f1) := (blk_cell BKw.out 1).trans rfl; have hcw2 : w4.cell? ⟨gw, 2, none⟩ = some (.int .i64 m2) := (blk_cell BKw.out 2).trans rfl; have hcw3 : w4.cell? ⟨gw, 3, none⟩ = some (.int .i64 m3) := (blk_cell BKw.out 3).trans rfl; have hcr0 : w4.cell? ⟨gr, 0, none⟩ = some (.slice none 0 0) := (blk_cell BKr.out 0).trans rfl; have hcr1 : w4.cell? ⟨gr, 1, none⟩ = some (.slice none 0 0) := (blk_cell BKr.out 1).trans rfl; have hcr2 : w4.cell? ⟨gr, 2, none⟩ = some (.int .i64 0) := (blk_cell BKr.out 2).trans rfl; have hcr3 : w4.cell? ⟨gr, 3, none⟩ = some (.int .i64 0) := (blk_cell BKr.out 3).trans rfl; have hcrf0 := blk_frozen BKr.out 0; have hcrf1 := blk_frozen BKr.out 1; have hcrf2 := blk_frozen BKr.out 2; have hcrf3 := blk_frozen BKr.out 3) | (go_at_call 80; refine (impl_ViewOk.calls k _ _ m0 _ _ m1 m2 m3 _ _ ?s1 ?s2 ?s3 ?s4 HV2.out).mono ?_; (case s1 => exact (Kd.R_reads' HO0.out).2.2); (case s2 => exact (Kd.R_reads' HO0.out).2.1); (case s3 => exact (Kd.R_reads' HO1.out).2.2); (case s4 => exact (Kd.R_reads' HO1.out).2.1); rintro e w5 ⟨rfl, hb⟩; have n0_ := Aside0.mk (Kd.R_below HO0.out hb); have n1_ := Aside0.mk (Kd.R_below HO1.out hb); have n2_ := Aside0.mk (blk_below BKw.out hb); have n3_ := Aside0.mk (blk_below BKr.out hb); have n4_ := Aside0.mk (below_then HBB.out HSZ.out hb); have n5_ : Aside0 (∀ (g : Nat) (cs : Array Value), w.heap[g]? = some (.cells cs 26 (0, 0)) → w5.heap[g]? = some (.cells cs 26 (0, 0))) := ⟨fun g cs h_ => blk_below (H26.out g cs h_) hb⟩; clear H26; have H26 := n5_; clear n5_; clear HO0 HO1 BKw BKr HBB hb hcw0 hcw1 hcw2 hcw3 hcr0 hcr1 hcr2 hcr3 hcrf0 hcrf1 hcrf2 hcrf3; have HO0 := n0_; have HO1 := n1_; have BKw := n2_; have BKr := n3_; have HBB := n4_; clear n0_ n1_ n2_ n3_ n4_; have hcw0 : w5.cell? ⟨gw, 0, none⟩ = some (.slice E0 m0.length f0) := (blk_cell BKw.out 0).trans rfl; have hcw1 : w5.cell? ⟨gw, 1, none⟩ = some (.slice E1 m1.length f1) := (blk_cell BKw.out 1).trans rfl; have hcw2 : w5.cell? ⟨gw, 2, none⟩ = some (.int .i64 m2) := (blk_cell BKw.out 2).trans rfl; have hcw3 : w5.cell? ⟨gw, 3, none⟩ = some (.int .i64 m3) := (blk_cell BKw.out 3).trans rfl; have hcr0 : w5.cell? ⟨gr, 0, none⟩ = some (.slice none 0 0) := (blk_cell BKr.out 0).trans rfl; have hcr1 : w5.cell? ⟨gr, 1, none⟩ = some (.slice none 0 0) := (blk_cell BKr.out 1).trans rfl; have hcr2 : w5.cell? ⟨gr, 2, none⟩ = some (.int .i64 0) := (blk_cell BKr.out 2).trans rfl; have hcr3 : w5.cell? ⟨gr, 3, none⟩ = some (.int .i64 0) := (blk_cell BKr.out 3).trans rfl; have hcrf0 := blk_frozen BKr.out 0; have hcrf1 := blk_frozen BKr.out 1; have hcrf2 := blk_frozen BKr.out 2; have hcrf3 := blk_frozen BKr.out 3))
      refine bodyPost_ret (results_cell_row rfl _ _ gr 26 #[.slice E0 m0.length f0, .slice E1 m1.length f1, .int .i64 m2, .int .i64 m3] (0, 0) _ rfl (by (with_reducible repeat (first | refine blk_drewN ?_ _ | refine blk_drew ?_)); refine blk_put (cs := #[.slice E0 m0.length f0, .slice E1 m1.length f1, .int .i64 m2, .int .i64 0]) ?_ 3 _ rfl; (with_reducible repeat (first | refine blk_drewN ?_ _ | refine blk_drew ?_)); refine blk_put (cs := #[.slice E0 m0.length f0, .slice E1 m1.length f1, .int .i64 0, .int .i64 0]) ?_ 2 _ rfl; (with_reducible repeat (first | refine blk_drewN ?_ _ | refine blk_drew ?_)); refine blk_put (cs := #[.slice E0 m0.length f0, .slice none 0 0, .int .i64 0, .int .i64 0]) ?_ 1 _ rfl; (with_reducible repeat (first | refine blk_drewN ?_ _ | refine blk_drew ?_)); refine blk_put (cs := #[.slice none 0 0, .slice none 0 0, .int .i64 0, .int .i64 0]) ?_ 0 _ rfl; (with_reducible repeat (first | refine blk_drewN ?_ _ | refine blk_drew ?_)); exact BKr.out) Try.underlying26 rfl (by kernel_rfl)) rfl ?_
      exact ⟨_, _, rfl, by (with_reducible repeat (first | apply Kd.R_drewN | apply Kd.R_drew)); exact Kd.R_mono (Kd.R_far (p := ⟨gr, 3, none⟩) (Kd.R_far (p := ⟨gr, 2, none⟩) (Kd.R_far (p := ⟨gr, 1, none⟩) (Kd.R_far (p := ⟨gr, 0, none⟩) (Kd.R_types HO0.out BKr.out (by decide)) (fun _ hk => hk.2) _) (fun _ hk => hk.2) _) (fun _ hk => hk.2) _) (fun _ hk => hk.2) _) (fun _ hk => hk.1), by (with_reducible repeat (first | apply Kd.R_drewN | apply Kd.R_drew)); exact Kd.R_mono (Kd.R_far (p := ⟨gr, 3, none⟩) (Kd.R_far (p := ⟨gr, 2, none⟩) (Kd.R_far (p := ⟨gr, 1, none⟩) (Kd.R_far (p := ⟨gr, 0, none⟩) (Kd.R_types HO1.out BKr.out (by decide)) (fun _ hk => hk.2) _) (fun _ hk => hk.2) _) (fun _ hk => hk.2) _) (fun _ hk => hk.2) _) (fun _ hk => hk.1), by (with_reducible repeat (first | exact HBB.out | apply pw_below_drewN | apply below_drew | (refine Below.setCell ?_ GRB.out _))), fun g cs h_ => by have hne_ : g ≠ gr := (by have := blk_lt h_; have := GBKr.out; omega); (with_reducible repeat (first | refine blk_drewN ?_ _ | refine blk_drew ?_ | refine blk_far ?_ hne_ _)); exact H26.out g cs h_⟩
/-- Where a closure over a view and two rows of its own stands. -/
structure PSt (wT w0 W X : World) (B gw g0 g1 d0 d1 : Nat) (o b : Int) (m0 m1 : List Int) : Prop where
  hp : X.heap[gw]? = some (.cells #[.slice (some ⟨g0, 0, none⟩) m0.length d0, .slice (some ⟨g1, 0, none⟩) m1.length d1, .int .i64 o, .int .i64 b] 26 (0, 0))
  r0 : Kd.R (Kd.int .i64) 3 X wT.heap.size (fun k_ => k_ ≠ g1) (.slice (some ⟨g0, 0, none⟩) m0.length d0) m0
  r1 : Kd.R (Kd.int .i64) 3 X wT.heap.size (fun k_ => k_ ≠ g0) (.slice (some ⟨g1, 0, none⟩) m1.length d1) m1
  k26 : ∀ (g : Nat) (cs : Array Value), g ≠ gw → W.heap[g]? = some (.cells cs 26 (0, 0)) → X.heap[g]? = some (.cells cs 26 (0, 0))
  size : W.heap.size ≤ X.heap.size
  below : Below B w0 X
  bt : Below wT.heap.size wT X
  bb : B ≤ wT.heap.size ∧ wT.heap.size ≤ W.heap.size ∧ B ≤ gw
section
variable {wT w0 W X : World} {B gw g0 g1 d0 d1 : Nat} {o b : Int} {m0 m1 : List Int}
theorem PSt.c0 (S : PSt wT w0 W X B gw g0 g1 d0 d1 o b m0 m1) : X.cell? ⟨gw, 0, none⟩ = some (.slice (some ⟨g0, 0, none⟩) m0.length d0) := (blk_cell S.hp 0).trans rfl
theorem PSt.c1 (S : PSt wT w0 W X B gw g0 g1 d0 d1 o b m0 m1) : X.cell? ⟨gw, 1, none⟩ = some (.slice (some ⟨g1, 0, none⟩) m1.length d1) := (blk_cell S.hp 1).trans rfl
theorem PSt.ne (S : PSt wT w0 W X B gw g0 g1 d0 d1 o b m0 m1) : g0 ≠ g1 := S.r0.1 g0 rfl
theorem PSt.drewN (S : PSt wT w0 W X B gw g0 g1 d0 d1 o b m0 m1) (n : Nat) : PSt wT w0 W (X.drewN n) B gw g0 g1 d0 d1 o b m0 m1 :=
  ⟨blk_drewN S.hp n, Kd.R_drewN S.r0 n, Kd.R_drewN S.r1 n, fun g cs hg h => blk_drewN (S.k26 g cs hg h) n, S.size, pw_below_drewN S.below n, pw_below_drewN S.bt n, S.bb⟩
theorem PSt.put1 (S : PSt wT w0 W X B gw g0 g1 d0 d1 o b m0 m1) (i : Int) (v : Int) :
    PSt wT w0 W (X.setCell ⟨g1, i.toNat, none⟩ (.int .i64 v)) B gw g0 g1 d0 d1 o b m0 (m1.set i.toNat v) := by
  obtain ⟨cs1, hc1⟩ := Kd.R_typed S.r1 g1 rfl
  have n1 : gw ≠ g1 := blk_ne S.hp hc1 (by decide)
  have hb1 := Kd.R_base S.r1 g1 rfl
  have p1 := (Kd.R_putg S.r1 i v).1
  have e1 : (m1.set i.toNat v).length = m1.length := List.length_set ..
  refine ⟨?_, Kd.R_far (p := ⟨g1, i.toNat, none⟩) S.r0 (fun k hk => hk) _, by rw [e1]; exact p1, ?_, ?_, S.below.setCell (p := ⟨g1, i.toNat, none⟩) (Nat.le_trans S.bb.1 hb1) _, S.bt.setCell (p := ⟨g1, i.toNat, none⟩) hb1 _, S.bb⟩
  · rw [e1]
    exact blk_far S.hp n1 _
  · intro g cs hg h
    have h1 := S.k26 g cs hg h
    exact blk_far h1 (blk_ne h1 hc1 (by decide)) _
  · have := S.size
    simp
    omega
theorem PSt.put0 (S : PSt wT w0 W X B gw g0 g1 d0 d1 o b m0 m1) (i : Int) (v : Int) :
    PSt wT w0 W (X.setCell ⟨g0, i.toNat, none⟩ (.int .i64 v)) B gw g0 g1 d0 d1 o b (m0.set i.toNat v) m1 := by
  obtain ⟨cs1, hc1⟩ := Kd.R_typed S.r0 g0 rfl
  have n1 : gw ≠ g0 := blk_ne S.hp hc1 (by decide)
  have hb1 := Kd.R_base S.r0 g0 rfl
  have p1 := (Kd.R_putg S.r0 i v).1
  have e1 : (m0.set i.toNat v).length = m0.length := List.length_set ..
  refine ⟨?_, by rw [e1]; exact p1, Kd.R_far (p := ⟨g0, i.toNat, none⟩) S.r1 (fun k hk => hk) _, ?_, ?_, S.below.setCell (p := ⟨g0, i.toNat, none⟩) (Nat.le_trans S.bb.1 hb1) _, S.bt.setCell (p := ⟨g0, i.toNat, none⟩) hb1 _, S.bb⟩
  · rw [e1]
    exact blk_far S.hp n1 _
  · intro g cs hg h
    have h1 := S.k26 g cs hg h
    exact blk_far h1 (blk_ne h1 hc1 (by decide)) _
  · have := S.size
    simp
    omega
theorem PSt.by_ (S : PSt wT w0 W X B gw g0 g1 d0 d1 o b m0 m1) (rb : Bool) : ViewBy w0 W wT.heap.size B gw rb m0 m1 o b (.returned (.bool rb)) X :=
  ⟨_, _, rfl, S.hp, Kd.R_mono S.r0 (fun k h e => h (Option.some.inj e)), Kd.R_mono S.r1 (fun k h e => h (Option.some.inj e)), S.k26, S.size, S.below⟩
end
/-- What Permute's closure does, round by round. -/
def impl_Permute.go (k : Nat) (d s ax : List Int) : Nat → Nat → List Int → List Int → Option (Bool × List Int × List Int)
  | 0, _, m0, m1 => some (true, m0, m1)
  | n + 1, i, m0, m1 => if 0 ≤ rd ax i ∧ rd ax i < (d.length : Int) then (slices_Contains_int_int.f k (ax.take i) (rd ax i)).bind fun c => if c = true then some (false, m0, m1) else impl_Permute.go k d s ax n (i + 1) (m0.set i (rd d (rd ax i))) (m1.set i (rd s (rd ax i))) else some (false, m0, m1)
def impl_Permute.by (k : Nat) (l0 l1 : List Int) (o b : Int) (ax : List Int) : Option (Bool × List Int × List Int × Int × Int) :=
  if ax.length ≠ l0.length then some (false, l0, l1, o, b)
  else if ¬ (l0.length = l1.length ∧ l0.length ≤ 1000) then none
  else (impl_Permute.go k l0 l1 ax ax.length 0 l0 l1).bind fun r => some (r.1, r.2.1, r.2.2, o, b)
theorem impl_Permute.gomono (k : Nat) (d s ax : List Int) : ∀ n i m0 m1, LeO (impl_Permute.go k d s ax n i m0 m1) (impl_Permute.go (k + 1) d s ax n i m0 m1)
  | 0, i, m0, m1 => LeO.refl _
  | n + 1, i, m0, m1 => by
    simp only [impl_Permute.go]
    refine LeO.ite (LeO.bind (slices_Contains_int_int.mono _ _ _) (fun c => LeO.ite (LeO.refl _) (impl_Permute.gomono k d s ax n _ _ _))) (LeO.refl _)
theorem impl_Permute.bymono : ∀ k a b c d e, LeO (impl_Permute.by k a b c d e) (impl_Permute.by (k + 1) a b c d e) := by
  intro k a b c d e
  unfold impl_Permute.by
  exact LeO.ite (LeO.refl _) (LeO.ite (LeO.refl _) (LeO.bind (impl_Permute.gomono _ _ _ _ _ _ _ _) (fun _ => LeO.refl _)))
set_option maxHeartbeats 4000000 in
set_option maxRecDepth 100000 in
theorem perm_yes (k : Nat) (wT w0 W : World) (B gw q1 q2 g0 g1 d0 d1 : Nat) (ax : List Int) (AA : Option Addr) (cc : Nat) (A0 : Option Addr) (c0 : Nat) (A1 : Option Addr) (c1 : Nat) (l0 l1 : List Int) (o b : Int) (rb : Bool) (M0 M1 : List Int)
    (kk1 : wT.heap[q1]? = some (.cells #[.slice AA ax.length cc] 22 (0, 0))) (kk2 : wT.heap[q2]? = some (.cells #[.slice A0 l0.length c0, .slice A1 l1.length c1, .int .i64 o, .int .i64 b] 26 (0, 0)))
    (hr0 : Kd.C (Kd.int .i64) wT A0 l0.length l0) (hr1 : Kd.C (Kd.int .i64) wT A1 l1.length l1) (hra : Kd.C (Kd.int .i64) wT AA ax.length ax) (hca : ax.length ≤ cc)
    (S : PSt wT w0 W W B gw g0 g1 d0 d1 o b l0 l1) (hax : ax.length = l0.length) (hl : l0.length = l1.length) (hl2 : l0.length ≤ 1000)
    (hgo : impl_Permute.go k l0 l1 ax ax.length 0 l0 l1 = some (rb, M0, M1)) :
    Calls Try.prog 63 #[.pointer (some ⟨gw, 0, none⟩), .pointer (some ⟨q1, 0, none⟩), .pointer (some ⟨q2, 0, none⟩)] W fun e X => e = .returned (.bool rb) ∧ PSt wT w0 W X B gw g0 g1 d0 d1 o b M0 M1 := by
  have k1 : W.cell? ⟨q1, 0, none⟩ = some (.slice AA ax.length cc) := (blk_cell (blk_below kk1 S.bt) 0).trans rfl
  have k2 : W.cell? ⟨q2, 0, none⟩ = some (.slice A0 l0.length c0) := (blk_cell (blk_below kk2 S.bt) 0).trans rfl
  have hne : ((ax.length : Int) != (l0.length : Int)) = false := by rw [hax]; simp
  have hne2 : ((ax.length : Int) == (l0.length : Int)) = true := by rw [hax]; simp
  have KK1 := Aside0.mk kk1
  have KK2 := Aside0.mk kk2
  have HR0 := Aside0.mk hr0
  have HR1 := Aside0.mk hr1
  have HRA := Aside0.mk hra
  have HCA := Aside0.mk hca
  have SS := Aside0.mk S
  have HL := Aside0.mk (And.intro hax (And.intro hl hl2))
  have HG := Aside0.mk hgo
  clear kk1 kk2 hr0 hr1 hra hca S hax hl hl2 hgo
  go_enter Try.func63, Try.ntmps63
  go_wp2
  clear k1 k2 hne hne2
  go_loopg [15] ax.length (fun gk v wr => ∃ (i : Int) (m0 m1 : List Int), v = .int .i64 i ∧ Aside0 (0 ≤ i ∧ i.toNat + gk = ax.length) ∧ Aside0 (impl_Permute.go k l0 l1 ax gk i.toNat m0 m1 = some (rb, M0, M1)) ∧ Aside0 (PSt wT w0 W wr B gw g0 g1 d0 d1 o b m0 m1 ∧ m0.length = l0.length ∧ m1.length = l0.length))
  case atStart => exact ⟨0, l0, l1, rfl, ⟨by omega, by simp⟩, HG, ⟨SS.out, rfl, HL.out.2.1.symm⟩⟩
  case round =>
    clear HG SS
    obtain ⟨i, m0, m1, rfl, HI, HA, HS⟩ := hrel
    cases gk with
    | zero =>
      have hi : decide (i < (ax.length : Int)) = false := decide_eq_false (by have := HI.out; omega)
      have ha := HA.out
      simp only [impl_Permute.go, Option.some.injEq, Prod.mk.injEq] at ha
      obtain ⟨rfl, rfl, rfl⟩ := ha
      go_wp2
      go_ret
      exact ⟨rfl, HS.out.1⟩
    | succ n =>
      have i0 : 0 ≤ i := HI.out.1
      have i1 : i < (ax.length : Int) := by have := HI.out; omega
      have hi : decide (i < (ax.length : Int)) = true := decide_eq_true i1
      have k1 : wr.cell? ⟨q1, 0, none⟩ = some (.slice AA ax.length cc) := (blk_cell (blk_below KK1.out HS.out.1.bt) 0).trans rfl
      have k2 : wr.cell? ⟨q2, 0, none⟩ = some (.slice A0 l0.length c0) := (blk_cell (blk_below KK2.out HS.out.1.bt) 0).trans rfl
      have k3 : wr.cell? ⟨q2, 1, none⟩ = some (.slice A1 l1.length c1) := (blk_cell (blk_below KK2.out HS.out.1.bt) 1).trans rfl
      obtain ⟨ada, ea, hxa⟩ := Kd.at_int HRA.out i i0 i1
      cases ea
      have hxa' := (HS.out.1.bt.cell (World.block_lt_of_cell? wT _ hxa)).trans hxa
      clear hxa
      obtain ⟨inf, hinf, hz0, hz1, hz2⟩ := info_parts info3
      have hcut := (print_take_int (P := Try.prog) (k := .i64) 22 3 Try.underlying22 hinf hz1 (some ada) cc ax i i0 (Int.le_of_lt i1) HCA.out).1
      clear hz0 hz1 hz2 hinf
      have ha := HA.out
      simp only [impl_Permute.go] at ha
      have ei : ((i.toNat : Nat) : Int) = i := Int.toNat_of_nonneg i0
      rw [ei] at ha
      clear HA ei
      obtain ⟨tk, htk⟩ : ∃ t, t = ax.take i.toNat := ⟨_, rfl⟩
      rw [← htk] at hcut ha
      have HTKE := Aside0.mk htk
      clear htk
      by_cases hy : 0 ≤ rd ax i ∧ rd ax i < (l0.length : Int)
      · rw [if_pos hy] at ha
        obtain ⟨c, hcn, ha⟩ := Option.bind_eq_some_iff.mp ha
        have HCN := Aside0.mk hcn
        have HTK : Aside0 (Kd.C (Kd.int .i64) wT (some ada) tk.length tk ∧ tk.length ≤ cc) := ⟨by rw [HTKE.out]; exact Kd.C_take HRA.out (by omega), by have := HCA.out; rw [HTKE.out]; simp; omega⟩
        clear hcn
        have hyd := decide_eq_true hy
        cases c with
        | true =>
          rw [if_pos rfl] at ha
          simp only [Option.some.injEq, Prod.mk.injEq] at ha
          obtain ⟨rfl, rfl, rfl⟩ := ha
          clear hy
          go_wp2_with (first | (go_at_call 64; refine (isAxis_calls _ _ _ _ _ _ rfl).mono ?_; rintro e w' ⟨rfl, rfl⟩) | (go_at_call 65; refine (slices_Contains_int_int.calls k _ _ tk (rd ax i) true _ (Kd.C_below HTK.out.1 HS.out.1.bt) HTK.out.2 HCN.out).mono ?_; rintro e w' ⟨rfl, ⟨nd, rfl⟩⟩))
          go_ret
          exact ⟨rfl, HS.out.1.drewN _⟩
        | false =>
          rw [if_neg (by simp)] at ha
          have HA := Aside0.mk ha
          clear ha
          have c0' := HS.out.1.c0
          have c1' := HS.out.1.c1
          obtain ⟨x0, f0⟩ := Kd.R_celln 0 HS.out.1.r0 i i0 (by have := HS.out.2.1; have := HL.out; omega)
          obtain ⟨x1, f1⟩ := Kd.R_celln 0 HS.out.1.r1 i i0 (by have := HS.out.2.2; have := HL.out; omega)
          obtain ⟨ad0, e0, y0⟩ := Kd.at_int HR0.out (rd ax i) hy.1 hy.2
          obtain ⟨ad1, e1, y1⟩ := Kd.at_int HR1.out (rd ax i) hy.1 (by have := HL.out; omega)
          cases e0
          cases e1
          have y0' := (HS.out.1.bt.cell (World.block_lt_of_cell? wT _ y0)).trans y0
          have y1' := (HS.out.1.bt.cell (World.block_lt_of_cell? wT _ y1)).trans y1
          have b0 : i < (m0.length : Int) := by have := HS.out.2.1; have := HL.out; omega
          have b1 : i < (m1.length : Int) := by have := HS.out.2.2; have := HL.out; omega
          have b2 : rd ax i < (l0.length : Int) := hy.2
          have b3 : rd ax i < (l1.length : Int) := by have := HL.out; omega
          have b4 : 0 ≤ rd ax i := hy.1
          have hwi : wrap64 (i + 1) = i + 1 := by have := HL.out; unfold wrap64; omega
          have hne := HS.out.1.ne
          clear hy y0 y1
          go_wp2_with (first | (go_at_call 64; refine (isAxis_calls _ _ _ _ _ _ rfl).mono ?_; rintro e w' ⟨rfl, rfl⟩) | (go_at_call 65; refine (slices_Contains_int_int.calls k _ _ tk (rd ax i) false _ (Kd.C_below HTK.out.1 HS.out.1.bt) HTK.out.2 HCN.out).mono ?_; rintro e w' ⟨rfl, ⟨nd, rfl⟩⟩))
          go_region
          go_wp2
          go_roundg n
          case measure => omega
          case rel =>
            have e1 : (i + 1).toNat = i.toNat + 1 := by omega
            refine ⟨i + 1, m0.set i.toNat (rd l0 (rd ax i)), m1.set i.toNat (rd l1 (rd ax i)), (by first | rfl | (simp; done) | (simp [*]; done)), ⟨by omega, by have := HI.out; omega⟩, ⟨by rw [e1]; exact HA.out⟩, ⟨?_, by rw [List.length_set]; exact HS.out.2.1, by rw [List.length_set]; exact HS.out.2.2⟩⟩
            exact ((HS.out.1.drewN _).put0 i _).put1 i _
      · rw [if_neg hy] at ha
        simp only [Option.some.injEq, Prod.mk.injEq] at ha
        obtain ⟨rfl, rfl, rfl⟩ := ha
        have hyd := decide_eq_false hy
        clear hy
        go_wp2_with (first | (go_at_call 64; refine (isAxis_calls _ _ _ _ _ _ rfl).mono ?_; rintro e w' ⟨rfl, rfl⟩))
        go_ret
        exact ⟨rfl, HS.out.1⟩
set_option maxHeartbeats 2000000 in
set_option maxRecDepth 100000 in
theorem perm_no (gw q1 q2 : Nat) (ax : List Int) (AA A0 : Option Addr) (cc c0 n0 : Nat) (w : World)
    (k1 : w.cell? ⟨q1, 0, none⟩ = some (.slice AA ax.length cc)) (k2 : w.cell? ⟨q2, 0, none⟩ = some (.slice A0 n0 c0)) (h : ax.length ≠ n0) :
    Calls Try.prog 63 #[.pointer (some ⟨gw, 0, none⟩), .pointer (some ⟨q1, 0, none⟩), .pointer (some ⟨q2, 0, none⟩)] w fun e w' => e = .returned (.bool false) ∧ ∃ m, w' = w.drewN m := by
  have hne : ((ax.length : Int) == (n0 : Int)) = false := beq_eq_false_iff_ne.mpr (by omega)
  have hne2 : (ax.length == n0) = false := beq_eq_false_iff_ne.mpr h
  go_enter Try.func63, Try.ntmps63
  go_wp2
  go_ret
  exact ⟨rfl, 0, rfl⟩
set_option maxHeartbeats 2000000 in
set_option maxRecDepth 100000 in
theorem perm_nil (gw q1 q2 : Nat) (AA A0 : Option Addr) (cc c0 : Nat) (w : World)
    (k1 : w.cell? ⟨q1, 0, none⟩ = some (.slice AA 0 cc)) (k2 : w.cell? ⟨q2, 0, none⟩ = some (.slice A0 0 c0)) :
    Calls Try.prog 63 #[.pointer (some ⟨gw, 0, none⟩), .pointer (some ⟨q1, 0, none⟩), .pointer (some ⟨q2, 0, none⟩)] w fun e w' => e = .returned (.bool true) ∧ ∃ m, w' = w.drewN m := by
  go_enter Try.func63, Try.ntmps63
  go_wp2
  refine wp_loop_rounds 1 ?_
  rw [rounds_succ]
  go_wp2
  go_ret
  exact ⟨rfl, 0, rfl⟩
set_option maxHeartbeats 1000000 in
theorem impl_Permute.closure (k : Nat) (wT W : World) (B q1 q2 : Nat) (ax : List Int) (AA : Option Addr) (cc : Nat) (A0_0 : Option Addr) (c0_0 : Nat) (A0_1 : Option Addr) (c0_1 : Nat) (gw : Nat) (A0 A1 : Option Addr) (d0 d1 : Nat) (l0 l1 : List Int) (o b : Int) (rb : Bool) (m0 m1 : List Int) (m2 m3 : Int)
    (kk1 : wT.heap[q1]? = some (.cells #[.slice AA ax.length cc] 22 (0, 0))) (kk2 : wT.heap[q2]? = some (.cells #[.slice A0_0 l0.length c0_0, .slice A0_1 l1.length c0_1, .int .i64 o, .int .i64 b] 26 (0, 0)))
    (hv0 : Kd.C (Kd.int .i64) wT A0_0 l0.length l0) (hvc0 : l0.length ≤ c0_0) (hv1 : Kd.C (Kd.int .i64) wT A0_1 l1.length l1) (hvc1 : l1.length ≤ c0_1) (hra : Kd.C (Kd.int .i64) wT AA ax.length ax) (hca : ax.length ≤ cc)
    (hBT : B ≤ wT.heap.size) (w0 : World) (hB0 : Below B w0 wT) (hbW : Below wT.heap.size wT W) (hgw : wT.heap.size ≤ gw)
    (hp : W.heap[gw]? = some (.cells #[.slice A0 l0.length d0, .slice A1 l1.length d1, .int .i64 o, .int .i64 b] 26 (0, 0)))
    (h0 : Kd.R (Kd.int .i64) 3 W wT.heap.size (fun k_ => some k_ ≠ (.slice A1 l1.length d1 : Value).ownBlock) (.slice A0 l0.length d0) l0) (h1 : Kd.R (Kd.int .i64) 3 W wT.heap.size (fun k_ => some k_ ≠ (.slice A0 l0.length d0 : Value).ownBlock) (.slice A1 l1.length d1) l1)
    (hf : impl_Permute.by k l0 l1 o b ax = some (rb, m0, m1, m2, m3)) :
    Calls Try.prog 63 #[.pointer (some ⟨gw, 0, none⟩), .pointer (some ⟨q1, 0, none⟩), .pointer (some ⟨q2, 0, none⟩)] W (ViewBy w0 W wT.heap.size B gw rb m0 m1 m2 m3) := by
  have f1 := blk_below kk1 hbW
  have f2 := blk_below kk2 hbW
  have k1 : W.cell? ⟨q1, 0, none⟩ = some (.slice AA ax.length cc) := (blk_cell f1 0).trans rfl
  have k2 : W.cell? ⟨q2, 0, none⟩ = some (.slice A0_0 l0.length c0_0) := (blk_cell f2 0).trans rfl
  have hBW : Below B w0 W := below_then hB0 hBT hbW
  have hsz := below_size hbW
  unfold impl_Permute.by at hf
  by_cases c1 : ax.length ≠ l0.length
  · rw [if_pos c1] at hf
    simp only [Option.some.injEq, Prod.mk.injEq] at hf
    obtain ⟨rfl, rfl, rfl, rfl, rfl⟩ := hf
    refine (perm_no gw q1 q2 ax AA A0_0 cc c0_0 l0.length W k1 k2 c1).mono ?_
    rintro e w' ⟨rfl, m, rfl⟩
    exact ViewBy.same m false hp h0 h1 hBW
  · rw [if_neg c1] at hf
    by_cases c3 : ¬ (l0.length = l1.length ∧ l0.length ≤ 1000)
    · rw [if_pos c3] at hf
      cases hf
    · rw [if_neg c3] at hf
      have c4 : l0.length = l1.length ∧ l0.length ≤ 1000 := by
        by_cases z : l0.length = l1.length ∧ l0.length ≤ 1000
        · exact z
        · exact absurd z c3
      obtain ⟨⟨rb', M0, M1⟩, hgo, hf⟩ := Option.bind_eq_some_iff.mp hf
      simp only [Option.some.injEq, Prod.mk.injEq] at hf
      obtain ⟨rfl, rfl, rfl, rfl, rfl⟩ := hf
      by_cases c5 : l0.length = 0
      · obtain rfl : l0 = [] := List.length_eq_zero_iff.1 c5
        obtain rfl : l1 = [] := List.length_eq_zero_iff.1 (by rw [← c4.1]; rfl)
        obtain rfl : ax = [] := List.length_eq_zero_iff.1 (by have := c1; simp at this; simp [this])
        simp only [impl_Permute.go, List.length_nil, Option.some.injEq, Prod.mk.injEq] at hgo
        obtain ⟨rfl, rfl, rfl⟩ := hgo
        refine (perm_nil gw q1 q2 AA A0_0 cc c0_0 W k1 k2).mono ?_
        rintro e w' ⟨rfl, m, rfl⟩
        exact ViewBy.same m true hp h0 h1 hBW
      · obtain ⟨g0, cap0, e0, b0, s0, cs0, hg0⟩ := Kd.R_form h0 (by omega)
        injection e0 with ea _ ec
        subst ea
        subst ec
        obtain ⟨g1, cap1, e1, b1, s1, cs1, hg1⟩ := Kd.R_form h1 (by omega)
        injection e1 with ea _ ec
        subst ea
        subst ec
        have S : PSt wT w0 W W B gw g0 g1 d0 d1 o b l0 l1 := ⟨hp, Kd.R_mono h0 (fun k h e => h (by rw [e]; rfl)), Kd.R_mono h1 (fun k h e => h (by rw [e]; rfl)), fun g cs _ h => h, Nat.le_refl _, hBW, hbW, hBT, hsz, by omega⟩
        refine (perm_yes k wT w0 W B gw q1 q2 g0 g1 d0 d1 ax AA cc A0_0 c0_0 A0_1 c0_1 l0 l1 o b _ _ _ kk1 kk2 hv0 hv1 hra hca S (by omega) c4.1 c4.2 hgo).mono ?_
        rintro e w' ⟨rfl, hS⟩
        exact hS.by_ _
def impl_Permute.f (k : Nat) (l0_0 : List Int) (l0_1 : List Int) (a0_2 : Int) (a0_3 : Int) (ax : List Int) : Option (List Int × List Int × Int × Int) :=
  (impl_ViewOk.f k l0_0 l0_1 a0_2 a0_3).bind fun t => if t = true then (slices_Clone_int_int.f l0_0).bind fun x0 => (slices_Clone_int_int.f l0_1).bind fun x1 => (impl_Permute.by k x0 x1 a0_2 a0_3 ax).bind fun q =>
    if q.1 = true then (impl_ViewOk.f k q.2.1 q.2.2.1 q.2.2.2.1 q.2.2.2.2).bind fun t2 => if t2 = true then some q.2 else some ([], [], 0, 0) else some ([], [], 0, 0) else some ([], [], 0, 0)
theorem impl_Permute.mono : ∀ a0 a1 a2 a3 b0 k, LeO (impl_Permute.f k a0 a1 a2 a3 b0) (impl_Permute.f (k + 1) a0 a1 a2 a3 b0) := by
  intro a0 a1 a2 a3 b0 k
  unfold impl_Permute.f
  repeat' first
      | (with_reducible exact impl_ViewOk.mono _ _ _ _ _)
      | (with_reducible exact impl_Permute.bymono _ _ _ _ _ _)
      | (with_reducible exact LeO.refl _)
      | (with_reducible exact LeO.none _)
      | (with_reducible refine LeO.ite ?_ ?_)
      | (with_reducible refine LeO.bind ?_ (fun _ => ?_))

set_option maxHeartbeats 8000000 in
set_option maxRecDepth 100000 in
theorem impl_Permute.own (k : Nat) (A0_0 : Option Addr) (c0_0 : Nat) (l0_0 : List Int) (A0_1 : Option Addr) (c0_1 : Nat) (l0_1 : List Int) (a0_2 : Int) (a0_3 : Int) (AA : Option Addr) (cc : Nat) (ax : List Int) (r1 : List Int) (r2 : List Int) (r3 : Int) (r4 : Int) (w : World) (hr0_0 : Kd.C (Kd.int .i64) w A0_0 l0_0.length l0_0) (hc0_0 : l0_0.length ≤ c0_0) (hr0_1 : Kd.C (Kd.int .i64) w A0_1 l0_1.length l0_1) (hc0_1 : l0_1.length ≤ c0_1) (hra : Kd.C (Kd.int .i64) w AA ax.length ax) (hca : ax.length ≤ cc) (h : impl_Permute.f k l0_0 l0_1 a0_2 a0_3 ax = some (r1, r2, r3, r4)) :
    Calls Try.prog 30 #[.agg #[.slice A0_0 l0_0.length c0_0, .slice A0_1 l0_1.length c0_1, .int .i64 a0_2, .int .i64 a0_3], .slice AA ax.length cc] w fun e w' => ∃ v0_ v1_ : Value, e = .returned (.agg #[v0_, v1_, .int .i64 r3, .int .i64 r4]) ∧ Kd.R (Kd.int .i64) 3 w' w.heap.size (fun k_ => some k_ ≠ (v1_ : Value).ownBlock) v0_ r1 ∧ Kd.R (Kd.int .i64) 3 w' w.heap.size (fun k_ => some k_ ≠ (v0_ : Value).ownBlock) v1_ r2 ∧ Below w.heap.size w w' := by
  have hu26 := Try.underlying26
  have HR0_0 := Aside0.mk hr0_0
  have HC0_0 := Aside0.mk hc0_0
  have HR0_1 := Aside0.mk hr0_1
  have HC0_1 := Aside0.mk hc0_1
  have HRA := Aside0.mk hra
  have HCA := Aside0.mk hca
  clear hra hca
  clear hr0_0 hc0_0 hr0_1 hc0_1
  have HB := Aside0.mk (Below.refl w.heap.size w)
  unfold impl_Permute.f at h
  obtain ⟨t, hv, h⟩ := Option.bind_eq_some_iff.mp h
  have HV := Aside0.mk hv
  clear hv
  cases t with
  | false =>
    rw [if_neg (by simp)] at h
    simp only [Option.some.injEq, Prod.mk.injEq] at h
    obtain ⟨rfl, rfl, rfl, rfl⟩ := h
    have hmf : ∀ (fn : Fn) (first cap : Array Value) (w : World), (Instr.makeFunc fn first cap).run Try.prog w = .ok (.func fn first cap) w := fun _ _ _ _ => rfl
    go_enter Try.func30, Try.ntmps30
    go_wp2_with (first | ((with_reducible refine gate_dst (N := 2) rfl ?_); refine box_event ?hg (N := 2) ?hd (cs := #[.slice A0_0 l0_0.length c0_0, .slice A0_1 l0_1.length c0_1, .int .i64 a0_2, .int .i64 a0_3]) (t := 26) ?hr ?_; (case hd => rfl); (case hg => rfl); (case hr => first | (go_simp; done) | (go_simp; rfl)); intro gv hg_gv w_gv hbox hb; have ng_ := Aside0.mk (by rw [hg_gv]; exact (below_size (by repeat (first | (with_reducible first | exact HB.out | apply below_alloc | apply pw_below_drewN | apply below_drew1) | exact HB.out))) : w.heap.size ≤ gv); have nb_ := Aside0.mk (below_step (by repeat (first | (with_reducible first | exact HB.out | apply below_alloc | apply pw_below_drewN | apply below_drew1) | exact HB.out)) hb); clear HB ; have HB := nb_; clear nb_  hb; have BKv := Aside0.mk hbox; have GBKv := ng_; clear hbox ng_ hg_gv) | ((with_reducible refine gate_dst (N := 3) rfl ?_); refine box_event ?hg (N := 3) ?hd (cs := #[.slice AA ax.length cc]) (t := 22) ?hr ?_; (case hd => rfl); (case hg => rfl); (case hr => first | (go_simp; done) | (go_simp; rfl)); intro gq1 hg_gq1 w_gq1 hbox hb; have ng_ := Aside0.mk (by rw [hg_gq1]; exact (below_size (by repeat (first | (with_reducible first | exact HB.out | apply below_alloc | apply pw_below_drewN | apply below_drew1) | exact HB.out))) : w.heap.size ≤ gq1); have nb_ := Aside0.mk (below_step (by repeat (first | (with_reducible first | exact HB.out | apply below_alloc | apply pw_below_drewN | apply below_drew1) | exact HB.out)) hb); have n0_ := Aside0.mk (blk_below (g := gv) (o := .cells #[.slice A0_0 l0_0.length c0_0, .slice A0_1 l0_1.length c0_1, .int .i64 a0_2, .int .i64 a0_3] 26 (0, 0)) (by (with_reducible repeat (first | refine blk_drewN ?_ _ | refine blk_drew ?_ | refine blk_alloc ?_ _)); exact BKv.out) hb); clear HB BKv; have HB := nb_; have BKv := n0_; clear nb_ n0_ hb; have BKgq1 := Aside0.mk hbox; have GBKgq1 := ng_; clear hbox ng_ hg_gq1) | ((with_reducible refine gate_dst (N := 4) rfl ?_); refine box_event ?hg (N := 4) ?hd (cs := #[.slice none 0 0, .slice none 0 0, .int .i64 0, .int .i64 0]) (t := 26) ?hr ?_; (case hd => rfl); (case hg => rfl); (case hr => first | (go_simp; done) | (go_simp; rfl)); intro gr hg_gr w_gr hbox hb; have ng_ := Aside0.mk (by rw [hg_gr]; exact (below_size (by repeat (first | (with_reducible first | exact HB.out | apply below_alloc | apply pw_below_drewN | apply below_drew1) | exact HB.out))) : w.heap.size ≤ gr); have nb_ := Aside0.mk (below_step (by repeat (first | (with_reducible first | exact HB.out | apply below_alloc | apply pw_below_drewN | apply below_drew1) | exact HB.out)) hb); have n0_ := Aside0.mk (blk_below (g := gv) (o := .cells #[.slice A0_0 l0_0.length c0_0, .slice A0_1 l0_1.length c0_1, .int .i64 a0_2, .int .i64 a0_3] 26 (0, 0)) (by (with_reducible repeat (first | refine blk_drewN ?_ _ | refine blk_drew ?_ | refine blk_alloc ?_ _)); exact BKv.out) hb); have n1_ := Aside0.mk (blk_below (g := gq1) (o := .cells #[.slice AA ax.length cc] 22 (0, 0)) (by (with_reducible repeat (first | refine blk_drewN ?_ _ | refine blk_drew ?_ | refine blk_alloc ?_ _)); exact BKgq1.out) hb); clear HB BKv BKgq1; have HB := nb_; have BKv := n0_; have BKgq1 := n1_; clear nb_ n0_ n1_ hb; have BKr := Aside0.mk hbox; have GBKr := ng_; clear hbox ng_ hg_gr; have hcv0 : w_gr.cell? ⟨gv, 0, none⟩ = some (.slice A0_0 l0_0.length c0_0) := (blk_cell BKv.out 0).trans rfl; have hcv1 : w_gr.cell? ⟨gv, 1, none⟩ = some (.slice A0_1 l0_1.length c0_1) := (blk_cell BKv.out 1).trans rfl; have hcv2 : w_gr.cell? ⟨gv, 2, none⟩ = some (.int .i64 a0_2) := (blk_cell BKv.out 2).trans rfl; have hcv3 : w_gr.cell? ⟨gv, 3, none⟩ = some (.int .i64 a0_3) := (blk_cell BKv.out 3).trans rfl) | (go_at_call 50; refine (impl_turn.no k _ _ _ _ l0_0 _ _ l0_1 a0_2 a0_3 _ ?s1 HC0_0.out ?s3 HC0_1.out HV.out).mono ?_; (case s1 => repeat (first | exact (Kd.C_below HR0_0.out HB.out) | (with_reducible refine Kd.C_alloc ?_ _) | (with_reducible refine Kd.C_drewN ?_ _) | (with_reducible refine Kd.C_drew ?_))); (case s3 => repeat (first | exact (Kd.C_below HR0_1.out HB.out) | (with_reducible refine Kd.C_alloc ?_ _) | (with_reducible refine Kd.C_drewN ?_ _) | (with_reducible refine Kd.C_drew ?_))); rintro e w9 ⟨rfl, hb⟩; have nb_ := Aside0.mk (below_step (by repeat (first | (with_reducible first | exact HB.out | apply below_alloc | apply pw_below_drewN | apply below_drew1) | exact HB.out)) hb); have n0_ := Aside0.mk (blk_below (g := gv) (o := .cells #[.slice A0_0 l0_0.length c0_0, .slice A0_1 l0_1.length c0_1, .int .i64 a0_2, .int .i64 a0_3] 26 (0, 0)) (by (with_reducible repeat (first | refine blk_drewN ?_ _ | refine blk_drew ?_ | refine blk_alloc ?_ _)); exact BKv.out) hb); have n1_ := Aside0.mk (blk_below (g := gq1) (o := .cells #[.slice AA ax.length cc] 22 (0, 0)) (by (with_reducible repeat (first | refine blk_drewN ?_ _ | refine blk_drew ?_ | refine blk_alloc ?_ _)); exact BKgq1.out) hb); have n2_ := Aside0.mk (blk_below (g := gr) (o := .cells #[.slice none 0 0, .slice none 0 0, .int .i64 0, .int .i64 0] 26 (0, 0)) (by (with_reducible repeat (first | refine blk_drewN ?_ _ | refine blk_drew ?_ | refine blk_alloc ?_ _)); exact BKr.out) hb); clear HB BKv BKgq1 BKr; have HB := nb_; have BKv := n0_; have BKgq1 := n1_; have BKr := n2_; clear nb_ n0_ n1_ n2_ hb; have hcr0 : w9.cell? ⟨gr, 0, none⟩ = some (.slice none 0 0) := (blk_cell BKr.out 0).trans rfl; have hcr1 : w9.cell? ⟨gr, 1, none⟩ = some (.slice none 0 0) := (blk_cell BKr.out 1).trans rfl; have hcr2 : w9.cell? ⟨gr, 2, none⟩ = some (.int .i64 0) := (blk_cell BKr.out 2).trans rfl; have hcr3 : w9.cell? ⟨gr, 3, none⟩ = some (.int .i64 0) := (blk_cell BKr.out 3).trans rfl; have hcrf0 := blk_frozen BKr.out 0; have hcrf1 := blk_frozen BKr.out 1; have hcrf2 := blk_frozen BKr.out 2; have hcrf3 := blk_frozen BKr.out 3))
    refine bodyPost_ret (results_cell_row rfl _ _ gr 26 #[.slice none 0 0, .slice none 0 0, .int .i64 0, .int .i64 0] (0, 0) _ rfl (by (with_reducible repeat (first | refine blk_drewN ?_ _ | refine blk_drew ?_)); refine blk_put (cs := #[.slice none 0 0, .slice none 0 0, .int .i64 0, .int .i64 0]) ?_ 3 _ rfl; (with_reducible repeat (first | refine blk_drewN ?_ _ | refine blk_drew ?_)); refine blk_put (cs := #[.slice none 0 0, .slice none 0 0, .int .i64 0, .int .i64 0]) ?_ 2 _ rfl; (with_reducible repeat (first | refine blk_drewN ?_ _ | refine blk_drew ?_)); refine blk_put (cs := #[.slice none 0 0, .slice none 0 0, .int .i64 0, .int .i64 0]) ?_ 1 _ rfl; (with_reducible repeat (first | refine blk_drewN ?_ _ | refine blk_drew ?_)); refine blk_put (cs := #[.slice none 0 0, .slice none 0 0, .int .i64 0, .int .i64 0]) ?_ 0 _ rfl; (with_reducible repeat (first | refine blk_drewN ?_ _ | refine blk_drew ?_)); exact BKr.out) Try.underlying26 rfl (by kernel_rfl)) rfl ?_
    exact ⟨_, _, rfl, Kd.R_nil _ _ _ _ _, Kd.R_nil _ _ _ _ _, by repeat (first | (with_reducible first | exact HB.out | apply below_alloc | apply pw_below_drewN | apply below_drew1 | refine below_set ?_ GBKr.out) | exact HB.out)⟩
  | true =>
    rw [if_pos rfl] at h
    obtain ⟨x0, hl0, h⟩ := Option.bind_eq_some_iff.mp h
    obtain ⟨x1, hl1, h⟩ := Option.bind_eq_some_iff.mp h
    obtain ⟨⟨rb, m0, m1, m2, m3⟩, hf, h⟩ := Option.bind_eq_some_iff.mp h
    obtain rfl : l0_0 = x0 := by
      unfold slices_Clone_int_int.f at hl0
      split at hl0
      · exact Option.some.inj hl0
      · cases hl0
    obtain rfl : l0_1 = x1 := by
      unfold slices_Clone_int_int.f at hl1
      split at hl1
      · exact Option.some.inj hl1
      · cases hl1
    obtain ⟨t2, hv2, hres⟩ : ∃ t2 : Bool, (rb = true → impl_ViewOk.f k m0 m1 m2 m3 = some t2) ∧ (if rb = true then (if t2 = true then (m0, m1, m2, m3) else ([], [], 0, 0)) else ([], [], 0, 0)) = (r1, r2, r3, r4) := by
      cases rb with
      | false =>
        rw [if_neg (by simp)] at h
        exact ⟨false, (fun z => (by cases z)), by simpa using h⟩
      | true =>
        rw [if_pos rfl] at h
        obtain ⟨t2, hv2, h⟩ := Option.bind_eq_some_iff.mp h
        refine ⟨t2, fun _ => hv2, ?_⟩
        cases t2 <;> simpa using h
    have HL0 := Aside0.mk hl0
    have HL1 := Aside0.mk hl1
    have HF := Aside0.mk hf
    have HV2 := Aside0.mk hv2
    have HRES := Aside0.mk hres
    clear hl0 hl1 hf hv2 hres h
    have hmf : ∀ (fn : Fn) (first cap : Array Value) (w : World), (Instr.makeFunc fn first cap).run Try.prog w = .ok (.func fn first cap) w := fun _ _ _ _ => rfl
    go_enter Try.func30, Try.ntmps30
    go_wp2_with (first | ((with_reducible refine gate_dst (N := 2) rfl ?_); refine box_event ?hg (N := 2) ?hd (cs := #[.slice A0_0 l0_0.length c0_0, .slice A0_1 l0_1.length c0_1, .int .i64 a0_2, .int .i64 a0_3]) (t := 26) ?hr ?_; (case hd => rfl); (case hg => rfl); (case hr => first | (go_simp; done) | (go_simp; rfl)); intro gv hg_gv w_gv hbox hb; have ng_ := Aside0.mk (by rw [hg_gv]; exact (below_size (by repeat (first | (with_reducible first | exact HB.out | apply below_alloc | apply pw_below_drewN | apply below_drew1) | exact HB.out))) : w.heap.size ≤ gv); have nb_ := Aside0.mk (below_step (by repeat (first | (with_reducible first | exact HB.out | apply below_alloc | apply pw_below_drewN | apply below_drew1) | exact HB.out)) hb); clear HB ; have HB := nb_; clear nb_  hb; have BKv := Aside0.mk hbox; have GBKv := ng_; clear hbox ng_ hg_gv) | ((with_reducible refine gate_dst (N := 3) rfl ?_); refine box_event ?hg (N := 3) ?hd (cs := #[.slice AA ax.length cc]) (t := 22) ?hr ?_; (case hd => rfl); (case hg => rfl); (case hr => first | (go_simp; done) | (go_simp; rfl)); intro gq1 hg_gq1 w_gq1 hbox hb; have ng_ := Aside0.mk (by rw [hg_gq1]; exact (below_size (by repeat (first | (with_reducible first | exact HB.out | apply below_alloc | apply pw_below_drewN | apply below_drew1) | exact HB.out))) : w.heap.size ≤ gq1); have nb_ := Aside0.mk (below_step (by repeat (first | (with_reducible first | exact HB.out | apply below_alloc | apply pw_below_drewN | apply below_drew1) | exact HB.out)) hb); have n0_ := Aside0.mk (blk_below (g := gv) (o := .cells #[.slice A0_0 l0_0.length c0_0, .slice A0_1 l0_1.length c0_1, .int .i64 a0_2, .int .i64 a0_3] 26 (0, 0)) (by (with_reducible repeat (first | refine blk_drewN ?_ _ | refine blk_drew ?_ | refine blk_alloc ?_ _)); exact BKv.out) hb); clear HB BKv; have HB := nb_; have BKv := n0_; clear nb_ n0_ hb; have BKgq1 := Aside0.mk hbox; have GBKgq1 := ng_; clear hbox ng_ hg_gq1) | ((with_reducible refine gate_dst (N := 4) rfl ?_); refine box_event ?hg (N := 4) ?hd (cs := #[.slice none 0 0, .slice none 0 0, .int .i64 0, .int .i64 0]) (t := 26) ?hr ?_; (case hd => rfl); (case hg => rfl); (case hr => first | (go_simp; done) | (go_simp; rfl)); intro gr hg_gr w_gr hbox hb; have ng_ := Aside0.mk (by rw [hg_gr]; exact (below_size (by repeat (first | (with_reducible first | exact HB.out | apply below_alloc | apply pw_below_drewN | apply below_drew1) | exact HB.out))) : w.heap.size ≤ gr); have nb_ := Aside0.mk (below_step (by repeat (first | (with_reducible first | exact HB.out | apply below_alloc | apply pw_below_drewN | apply below_drew1) | exact HB.out)) hb); have n0_ := Aside0.mk (blk_below (g := gv) (o := .cells #[.slice A0_0 l0_0.length c0_0, .slice A0_1 l0_1.length c0_1, .int .i64 a0_2, .int .i64 a0_3] 26 (0, 0)) (by (with_reducible repeat (first | refine blk_drewN ?_ _ | refine blk_drew ?_ | refine blk_alloc ?_ _)); exact BKv.out) hb); have n1_ := Aside0.mk (blk_below (g := gq1) (o := .cells #[.slice AA ax.length cc] 22 (0, 0)) (by (with_reducible repeat (first | refine blk_drewN ?_ _ | refine blk_drew ?_ | refine blk_alloc ?_ _)); exact BKgq1.out) hb); clear HB BKv BKgq1; have HB := nb_; have BKv := n0_; have BKgq1 := n1_; clear nb_ n0_ n1_ hb; have BKr := Aside0.mk hbox; have GBKr := ng_; clear hbox ng_ hg_gr; have hcv0 : w_gr.cell? ⟨gv, 0, none⟩ = some (.slice A0_0 l0_0.length c0_0) := (blk_cell BKv.out 0).trans rfl; have hcv1 : w_gr.cell? ⟨gv, 1, none⟩ = some (.slice A0_1 l0_1.length c0_1) := (blk_cell BKv.out 1).trans rfl; have hcv2 : w_gr.cell? ⟨gv, 2, none⟩ = some (.int .i64 a0_2) := (blk_cell BKv.out 2).trans rfl; have hcv3 : w_gr.cell? ⟨gv, 3, none⟩ = some (.int .i64 a0_3) := (blk_cell BKv.out 3).trans rfl) | (go_at_call 50; refine (impl_turn.go k w.heap.size gq1 gv _ _ l0_0 _ _ l0_1 a0_2 a0_3 rb t2 m0 m1 m2 m3 r1 r2 r3 r4 _ (below_size HB.out) ?s1 HC0_0.out ?s3 HC0_1.out HV.out HL0.out HL1.out ?sby HV2.out HRES.out).mono ?_; (case s1 => repeat (first | exact (Kd.C_below HR0_0.out HB.out) | (with_reducible refine Kd.C_alloc ?_ _) | (with_reducible refine Kd.C_drewN ?_ _) | (with_reducible refine Kd.C_drew ?_))); (case s3 => repeat (first | exact (Kd.C_below HR0_1.out HB.out) | (with_reducible refine Kd.C_alloc ?_ _) | (with_reducible refine Kd.C_drewN ?_ _) | (with_reducible refine Kd.C_drew ?_))); (case sby => exact (by intro W gw B0 B1 d0 d1 hbW hgw hp h0 h1; exact impl_Permute.closure k _ W w.heap.size gq1 gv ax AA cc A0_0 c0_0 A0_1 c0_1 gw B0 B1 d0 d1 l0_0 l0_1 a0_2 a0_3 rb m0 m1 m2 m3 (by (with_reducible repeat (first | refine blk_drewN ?_ _ | refine blk_drew ?_ | refine blk_alloc ?_ _)); exact BKgq1.out) (by (with_reducible repeat (first | refine blk_drewN ?_ _ | refine blk_drew ?_ | refine blk_alloc ?_ _)); exact BKv.out) (Kd.C_below HR0_0.out (by repeat (first | (with_reducible first | exact HB.out | apply below_alloc | apply pw_below_drewN | apply below_drew1) | exact HB.out))) HC0_0.out (Kd.C_below HR0_1.out (by repeat (first | (with_reducible first | exact HB.out | apply below_alloc | apply pw_below_drewN | apply below_drew1) | exact HB.out))) HC0_1.out (Kd.C_below HRA.out (by repeat (first | (with_reducible first | exact HB.out | apply below_alloc | apply pw_below_drewN | apply below_drew1) | exact HB.out))) HCA.out (below_size HB.out) _ (Below.refl _ _) hbW hgw hp h0 h1 HF.out)); rintro e w9 ⟨v0, v1, rfl, ho0, ho1, hbb, h26⟩; have BKr9 := Aside0.mk (h26 _ _ (by (with_reducible repeat (first | refine blk_drewN ?_ _ | refine blk_drew ?_ | refine blk_alloc ?_ _)); exact BKr.out)); have HB9 := Aside0.mk (HB.out.trans hbb); have HO0 := Aside0.mk (Kd.R_lower ho0 (below_size HB.out)); have HO1 := Aside0.mk (Kd.R_lower ho1 (below_size HB.out)); obtain ⟨E0, f0, rfl⟩ := Kd.R_slice ho0; obtain ⟨E1, f1, rfl⟩ := Kd.R_slice ho1; clear ho0 ho1 hbb h26 HB BKr; have hcr0 : w9.cell? ⟨gr, 0, none⟩ = some (.slice none 0 0) := (blk_cell BKr9.out 0).trans rfl; have hcr1 : w9.cell? ⟨gr, 1, none⟩ = some (.slice none 0 0) := (blk_cell BKr9.out 1).trans rfl; have hcr2 : w9.cell? ⟨gr, 2, none⟩ = some (.int .i64 0) := (blk_cell BKr9.out 2).trans rfl; have hcr3 : w9.cell? ⟨gr, 3, none⟩ = some (.int .i64 0) := (blk_cell BKr9.out 3).trans rfl; have hcrf0 := blk_frozen BKr9.out 0; have hcrf1 := blk_frozen BKr9.out 1; have hcrf2 := blk_frozen BKr9.out 2; have hcrf3 := blk_frozen BKr9.out 3))
    refine bodyPost_ret (results_cell_row rfl _ _ gr 26 #[.slice E0 r1.length f0, .slice E1 r2.length f1, .int .i64 r3, .int .i64 r4] (0, 0) _ rfl (by (with_reducible repeat (first | refine blk_drewN ?_ _ | refine blk_drew ?_)); refine blk_put (cs := #[.slice E0 r1.length f0, .slice E1 r2.length f1, .int .i64 r3, .int .i64 0]) ?_ 3 _ rfl; (with_reducible repeat (first | refine blk_drewN ?_ _ | refine blk_drew ?_)); refine blk_put (cs := #[.slice E0 r1.length f0, .slice E1 r2.length f1, .int .i64 0, .int .i64 0]) ?_ 2 _ rfl; (with_reducible repeat (first | refine blk_drewN ?_ _ | refine blk_drew ?_)); refine blk_put (cs := #[.slice E0 r1.length f0, .slice none 0 0, .int .i64 0, .int .i64 0]) ?_ 1 _ rfl; (with_reducible repeat (first | refine blk_drewN ?_ _ | refine blk_drew ?_)); refine blk_put (cs := #[.slice none 0 0, .slice none 0 0, .int .i64 0, .int .i64 0]) ?_ 0 _ rfl; (with_reducible repeat (first | refine blk_drewN ?_ _ | refine blk_drew ?_)); exact BKr9.out) Try.underlying26 rfl (by kernel_rfl)) rfl ?_
    exact ⟨_, _, rfl, by (with_reducible repeat (first | apply Kd.R_drewN | apply Kd.R_drew)); exact Kd.R_mono (Kd.R_far (p := ⟨gr, 3, none⟩) (Kd.R_far (p := ⟨gr, 2, none⟩) (Kd.R_far (p := ⟨gr, 1, none⟩) (Kd.R_far (p := ⟨gr, 0, none⟩) (Kd.R_types HO0.out BKr9.out (by decide)) (fun _ hk => hk.2) _) (fun _ hk => hk.2) _) (fun _ hk => hk.2) _) (fun _ hk => hk.2) _) (fun _ hk => hk.1), by (with_reducible repeat (first | apply Kd.R_drewN | apply Kd.R_drew)); exact Kd.R_mono (Kd.R_far (p := ⟨gr, 3, none⟩) (Kd.R_far (p := ⟨gr, 2, none⟩) (Kd.R_far (p := ⟨gr, 1, none⟩) (Kd.R_far (p := ⟨gr, 0, none⟩) (Kd.R_types HO1.out BKr9.out (by decide)) (fun _ hk => hk.2) _) (fun _ hk => hk.2) _) (fun _ hk => hk.2) _) (fun _ hk => hk.2) _) (fun _ hk => hk.1), by repeat (first | (with_reducible first | exact HB9.out | apply pw_below_drewN | apply below_drew1 | refine below_set ?_ GBKr.out) | exact HB9.out)⟩

set_option maxHeartbeats 8000000 in
set_option maxRecDepth 100000 in
theorem impl_Permute.calls (k : Nat) (A0_0 : Option Addr) (c0_0 : Nat) (l0_0 : List Int) (A0_1 : Option Addr) (c0_1 : Nat) (l0_1 : List Int) (a0_2 : Int) (a0_3 : Int) (A1 : Option Addr) (c1 : Nat) (l1 : List Int) (r1 : List Int) (r2 : List Int) (r3 : Int) (r4 : Int) (w : World) (hr0_0 : Kd.C (Kd.int .i64) w A0_0 l0_0.length l0_0) (hc0_0 : l0_0.length ≤ c0_0) (hr0_1 : Kd.C (Kd.int .i64) w A0_1 l0_1.length l0_1) (hc0_1 : l0_1.length ≤ c0_1) (hr1 : Kd.C (Kd.int .i64) w A1 l1.length l1) (hc1 : l1.length ≤ c1) (h : impl_Permute.f k l0_0 l0_1 a0_2 a0_3 l1 = some (r1, r2, r3, r4)) :
    Calls Try.prog 30 #[.agg #[.slice A0_0 l0_0.length c0_0, .slice A0_1 l0_1.length c0_1, .int .i64 a0_2, .int .i64 a0_3], .slice A1 l1.length c1] w fun e w' => ∃ v0_ v1_ : Value, e = .returned (.agg #[v0_, v1_, .int .i64 r3, .int .i64 r4]) ∧ Kd.R (Kd.int .i64) 3 w' w.heap.size (fun k_ => some k_ ≠ (v1_ : Value).ownBlock) v0_ r1 ∧ Kd.R (Kd.int .i64) 3 w' w.heap.size (fun k_ => some k_ ≠ (v0_ : Value).ownBlock) v1_ r2 ∧ Below w.heap.size w w' := by
  exact impl_Permute.own k _ _ l0_0 _ _ l0_1 a0_2 a0_3 _ _ l1 r1 r2 r3 r4 w hr0_0 hc0_0 hr0_1 hc0_1 hr1 hc1 h

end Go.Proofs.Ytpoblnigmfbnfac.PFnExactPermute
