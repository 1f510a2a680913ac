-- Printed out of the translation, hand-written contracts beside it; checked by the kernel alone.
import Derived.Test.YtpoblnigmfbnfacPFnExactSpreadx0
import Derived.Test.YtpoblnigmfbnfacPFnExactSpreadx5
import Derived.Test.YtpoblnigmfbnfacPFnExactSpreadx6
namespace Go.Proofs.Ytpoblnigmfbnfac.PFnExactSpread
open Go.RowKit Go.Proofs.YtpoblnigmfbnfacW.PrintWords Go.Proofs.YtpoblnigmfbnfacW.PrintLast Go.Proofs.YtpoblnigmfbnfacW.PrintMore
attribute [local go_sem] max2_int min2_int max_two min_two max_three min_three max_four min_four   -- for this text's walks alone
set_option linter.unusedVariables false
set_option linter.unusedSimpArgs false

/-! ### impl_Spread: function 13 -/
theorem setCell_drewN (w : World) (n : Nat) (a : Addr) (v : Value) : (w.drewN n).setCell a v = (w.setCell a v).drewN n := by
  induction n with
  | zero => rfl
  | succ n ih => rw [← World.drew_drewN, World.setCell_drew, ih, World.drew_drewN]
/-- What is told of a view in memory, behind a closure over it. -/
def ViewBy (w0 W : World) (base B gw : Nat) (rb : Bool) (m0 m1 : List Int) (m2 m3 : Int) (e : Ending) (W' : World) : Prop :=
  ∃ v0 v1 : Value, e = .returned (.bool rb) ∧ W'.heap[gw]? = some (.cells #[v0, v1, .int .i64 m2, .int .i64 m3] 26 (0, 0)) ∧ Kd.R (Kd.int .i64) 3 W' base (fun k_ => some k_ ≠ (v1 : Value).ownBlock) v0 m0 ∧ Kd.R (Kd.int .i64) 3 W' base (fun k_ => some k_ ≠ (v0 : Value).ownBlock) v1 m1 ∧
    (∀ (g : Nat) (cs : Array Value), g ≠ gw → W.heap[g]? = some (.cells cs 26 (0, 0)) → W'.heap[g]? = some (.cells cs 26 (0, 0))) ∧ W.heap.size ≤ W'.heap.size ∧ Below B w0 W'
/-- The view as it was. -/
theorem ViewBy.same {w0 W : World} {base B gw : Nat} {A0 A1 : Option Addr} {d0 d1 : Nat} {l0 l1 : List Int} {o b : Int} (m : Nat) (r : Bool)
    (hp : W.heap[gw]? = some (.cells #[.slice A0 l0.length d0, .slice A1 l1.length d1, .int .i64 o, .int .i64 b] 26 (0, 0)))
    (h0 : Kd.R (Kd.int .i64) 3 W base (fun k_ => some k_ ≠ (.slice A1 l1.length d1 : Value).ownBlock) (.slice A0 l0.length d0) l0) (h1 : Kd.R (Kd.int .i64) 3 W base (fun k_ => some k_ ≠ (.slice A0 l0.length d0 : Value).ownBlock) (.slice A1 l1.length d1) l1) (hB : Below B w0 W) :
    ViewBy w0 W base B gw r l0 l1 o b (.returned (.bool r)) (W.drewN m) :=
  ⟨_, _, rfl, blk_drewN hp m, Kd.R_drewN h0 m, Kd.R_drewN h1 m, fun g cs _ h => blk_drewN h m, Nat.le_refl _, pw_below_drewN hB m⟩
/-- A number of the view, one of each of its rows written. -/
theorem ViewBy.put {w0 W : World} {base B gw g0 g1 d0 d1 : Nat} {l0 l1 : List Int} {o b : Int} (m : Nat) (i x y z : Int) (h0i : 0 ≤ i)
    (hp : W.heap[gw]? = some (.cells #[.slice (some ⟨g0, 0, none⟩) l0.length d0, .slice (some ⟨g1, 0, none⟩) l1.length d1, .int .i64 o, .int .i64 b] 26 (0, 0)))
    (h0 : Kd.R (Kd.int .i64) 3 W base (fun k_ => some k_ ≠ (.slice (some ⟨g1, 0, none⟩) l1.length d1 : Value).ownBlock) (.slice (some ⟨g0, 0, none⟩) l0.length d0) l0) (h1 : Kd.R (Kd.int .i64) 3 W base (fun k_ => some k_ ≠ (.slice (some ⟨g0, 0, none⟩) l0.length d0 : Value).ownBlock) (.slice (some ⟨g1, 0, none⟩) l1.length d1) l1)
    (hB : Below B w0 W) (hbase : B ≤ base) (hgw : B ≤ gw) :
    ViewBy w0 W base B gw true (l0.set i.toNat x) (l1.set i.toNat y) z b (.returned (.bool true)) ((((W.setCell ⟨gw, 2, none⟩ (.int .i64 z)).setCell ⟨g0, i.toNat, none⟩ (.int .i64 x)).setCell ⟨g1, i.toNat, none⟩ (.int .i64 y)).drewN m) := by
  have e0 : g0 ≠ g1 := by
    have := h0.1 g0 rfl
    intro e
    exact this (by rw [e]; rfl)
  obtain ⟨cs0, hc0⟩ := Kd.R_typed h0 g0 rfl
  obtain ⟨cs1, hc1⟩ := Kd.R_typed h1 g1 rfl
  have n0 : gw ≠ g0 := blk_ne hp hc0 (by decide)
  have n1 : gw ≠ g1 := blk_ne hp hc1 (by decide)
  have b0 := Nat.le_trans hbase (Kd.R_base h0 g0 rfl)
  have b1 := Nat.le_trans hbase (Kd.R_base h1 g1 rfl)
  have s0 := Kd.R_set h0 hp (by decide) 2 (.int .i64 z)
  have s1 := Kd.R_set h1 hp (by decide) 2 (.int .i64 z)
  have p0 := (Kd.R_putg s0 i x).1
  have t1 := Kd.R_far (p := ⟨g0, i.toNat, none⟩) s1 (fun k hk e => hk (by rw [e]; rfl)) (.int .i64 x)
  have t0 := Kd.R_far (p := ⟨g1, i.toNat, none⟩) p0 (fun k hk e => hk (by rw [e]; rfl)) (.int .i64 y)
  have p1 := (Kd.R_putg t1 i y).1
  have e00 : (l0.set i.toNat x).length = l0.length := List.length_set ..
  have e11 : (l1.set i.toNat y).length = l1.length := List.length_set ..
  refine ⟨.slice (some ⟨g0, 0, none⟩) l0.length d0, .slice (some ⟨g1, 0, none⟩) l1.length d1, rfl, blk_drewN (blk_far (blk_far (blk_put hp 2 _ rfl) n0 _) n1 _) m, Kd.R_drewN t0 m, Kd.R_drewN p1 m, ?_, ?_, ?_⟩
  · intro g cs hg h
    have m0 : g ≠ g0 := blk_ne h hc0 (by decide)
    have m1 : g ≠ g1 := blk_ne h hc1 (by decide)
    exact blk_drewN (blk_far (blk_far (blk_far h hg _) m0 _) m1 _) m
  · simp
  · exact pw_below_drewN (((hB.setCell (p := ⟨gw, 2, none⟩) hgw _).setCell (p := ⟨g0, i.toNat, none⟩) b0 _).setCell (p := ⟨g1, i.toNat, none⟩) b1 _) m
set_option maxHeartbeats 2000000 in
set_option maxRecDepth 100000 in
theorem impl_turn.no (k g : Nat) (caps : Array Value) (A0 : Option Addr) (c0 : Nat) (l0 : List Int) (A1 : Option Addr) (c1 : Nat) (l1 : List Int) (o b : Int) (w : World)
    (hr0 : Kd.C (Kd.int .i64) w A0 l0.length l0) (hc0 : l0.length ≤ c0) (hr1 : Kd.C (Kd.int .i64) w A1 l1.length l1) (hc1 : l1.length ≤ c1) (hv : impl_ViewOk.f k l0 l1 o b = some false) :
    Calls Try.prog 50 #[.agg #[.slice A0 l0.length c0, .slice A1 l1.length c1, .int .i64 o, .int .i64 b], .func (.func g) #[] caps] w fun e w' => e = .returned (.agg #[.slice none 0 0, .slice none 0 0, .int .i64 0, .int .i64 0]) ∧ Below w.heap.size w w' := by
  have hu26 := Try.underlying26
  have HR0 := Aside0.mk hr0
  have HC0 := Aside0.mk hc0
  have HR1 := Aside0.mk hr1
  have HC1 := Aside0.mk hc1
  have HV := Aside0.mk hv
  clear hr0 hc0 hr1 hc1 hv
  have HB := Aside0.mk (Below.refl w.heap.size w)
  go_enter Try.func50, Try.ntmps50
  go_wp2_with (first | ((with_reducible refine gate_dst (N := 2) rfl ?_); refine box_event ?hg (N := 2) ?hd (cs := #[.slice A0 l0.length c0, .slice A1 l1.length c1, .int .i64 o, .int .i64 b]) (t := 26) ?hr ?_; (case hd => rfl); (case hg => rfl); (case hr => first | (go_simp; done) | (go_simp; rfl)); intro gv hg_gv w_gv hbox hb; have ng_ := Aside0.mk (by rw [hg_gv]; exact (below_size (by repeat (first | (with_reducible first | exact HB.out | apply below_alloc | apply pw_below_drewN | apply below_drew1) | exact HB.out))) : w.heap.size ≤ gv); have nb_ := Aside0.mk (below_step (by repeat (first | (with_reducible first | exact HB.out | apply below_alloc | apply pw_below_drewN | apply below_drew1) | exact HB.out)) hb); clear HB ; have HB := nb_; clear nb_  hb; have BKv := Aside0.mk hbox; have GBKv := ng_; clear hbox ng_ hg_gv) | ((with_reducible refine gate_dst (N := 4) rfl ?_); refine box_event ?hg (N := 4) ?hd (cs := #[.slice none 0 0, .slice none 0 0, .int .i64 0, .int .i64 0]) (t := 26) ?hr ?_; (case hd => rfl); (case hg => rfl); (case hr => first | (go_simp; done) | (go_simp; rfl)); intro gr hg_gr w_gr hbox hb; have ng_ := Aside0.mk (by rw [hg_gr]; exact (below_size (by repeat (first | (with_reducible first | exact HB.out | apply below_alloc | apply pw_below_drewN | apply below_drew1) | exact HB.out))) : w.heap.size ≤ gr); have nb_ := Aside0.mk (below_step (by repeat (first | (with_reducible first | exact HB.out | apply below_alloc | apply pw_below_drewN | apply below_drew1) | exact HB.out)) hb); have n0_ := Aside0.mk (blk_below (g := gv) (o := .cells #[.slice A0 l0.length c0, .slice A1 l1.length c1, .int .i64 o, .int .i64 b] 26 (0, 0)) (by (with_reducible repeat (first | refine blk_drewN ?_ _ | refine blk_drew ?_ | refine blk_alloc ?_ _)); exact BKv.out) hb); clear HB BKv; have HB := nb_; have BKv := n0_; clear nb_ n0_ hb; have BKr := Aside0.mk hbox; have GBKr := ng_; clear hbox ng_ hg_gr; have hcv0 : w_gr.cell? ⟨gv, 0, none⟩ = some (.slice A0 l0.length c0) := (blk_cell BKv.out 0).trans rfl; have hcv1 : w_gr.cell? ⟨gv, 1, none⟩ = some (.slice A1 l1.length c1) := (blk_cell BKv.out 1).trans rfl; have hcv2 : w_gr.cell? ⟨gv, 2, none⟩ = some (.int .i64 o) := (blk_cell BKv.out 2).trans rfl; have hcv3 : w_gr.cell? ⟨gv, 3, none⟩ = some (.int .i64 b) := (blk_cell BKv.out 3).trans rfl) | (go_at_call 80; refine (impl_ViewOk.calls k _ _ l0 _ _ l1 o b false _ ?s1 ?s2 ?s3 ?s4 HV.out).mono ?_; (case s1 => repeat (first | exact (Kd.C_below HR0.out HB.out) | (with_reducible refine Kd.C_alloc ?_ _) | (with_reducible refine Kd.C_drewN ?_ _) | (with_reducible refine Kd.C_drew ?_))); (case s2 => exact HC0.out); (case s3 => repeat (first | exact (Kd.C_below HR1.out HB.out) | (with_reducible refine Kd.C_alloc ?_ _) | (with_reducible refine Kd.C_drewN ?_ _) | (with_reducible refine Kd.C_drew ?_))); (case s4 => exact HC1.out); rintro e w1 ⟨rfl, hb⟩; have nb_ := Aside0.mk (below_step (by repeat (first | (with_reducible first | exact HB.out | apply below_alloc | apply pw_below_drewN | apply below_drew1) | exact HB.out)) hb); have n0_ := Aside0.mk (blk_below (g := gv) (o := .cells #[.slice A0 l0.length c0, .slice A1 l1.length c1, .int .i64 o, .int .i64 b] 26 (0, 0)) (by (with_reducible repeat (first | refine blk_drewN ?_ _ | refine blk_drew ?_ | refine blk_alloc ?_ _)); exact BKv.out) hb); have n1_ := Aside0.mk (blk_below (g := gr) (o := .cells #[.slice none 0 0, .slice none 0 0, .int .i64 0, .int .i64 0] 26 (0, 0)) (by (with_reducible repeat (first | refine blk_drewN ?_ _ | refine blk_drew ?_ | refine blk_alloc ?_ _)); exact BKr.out) hb); clear HB BKv BKr; have HB := nb_; have BKv := n0_; have BKr := n1_; clear nb_ n0_ n1_ hb; clear hcv0 hcv1 hcv2 hcv3; have hcr0 : w1.cell? ⟨gr, 0, none⟩ = some (.slice none 0 0) := (blk_cell BKr.out 0).trans rfl; have hcr1 : w1.cell? ⟨gr, 1, none⟩ = some (.slice none 0 0) := (blk_cell BKr.out 1).trans rfl; have hcr2 : w1.cell? ⟨gr, 2, none⟩ = some (.int .i64 0) := (blk_cell BKr.out 2).trans rfl; have hcr3 : w1.cell? ⟨gr, 3, none⟩ = some (.int .i64 0) := (blk_cell BKr.out 3).trans rfl; have hcrf0 := blk_frozen BKr.out 0; have hcrf1 := blk_frozen BKr.out 1; have hcrf2 := blk_frozen BKr.out 2; have hcrf3 := blk_frozen BKr.out 3))
  refine bodyPost_ret (results_cell_row rfl _ _ gr 26 #[.slice none 0 0, .slice none 0 0, .int .i64 0, .int .i64 0] (0, 0) _ rfl (by (with_reducible repeat (first | refine blk_drewN ?_ _ | refine blk_drew ?_)); refine blk_put (cs := #[.slice none 0 0, .slice none 0 0, .int .i64 0, .int .i64 0]) ?_ 3 _ rfl; (with_reducible repeat (first | refine blk_drewN ?_ _ | refine blk_drew ?_)); refine blk_put (cs := #[.slice none 0 0, .slice none 0 0, .int .i64 0, .int .i64 0]) ?_ 2 _ rfl; (with_reducible repeat (first | refine blk_drewN ?_ _ | refine blk_drew ?_)); refine blk_put (cs := #[.slice none 0 0, .slice none 0 0, .int .i64 0, .int .i64 0]) ?_ 1 _ rfl; (with_reducible repeat (first | refine blk_drewN ?_ _ | refine blk_drew ?_)); refine blk_put (cs := #[.slice none 0 0, .slice none 0 0, .int .i64 0, .int .i64 0]) ?_ 0 _ rfl; (with_reducible repeat (first | refine blk_drewN ?_ _ | refine blk_drew ?_)); exact BKr.out) Try.underlying26 rfl (by kernel_rfl)) rfl ?_
  exact ⟨rfl, by repeat (first | (with_reducible first | exact HB.out | apply below_alloc | apply pw_below_drewN | apply below_drew1 | refine below_set ?_ GBKr.out) | exact HB.out)⟩
set_option maxHeartbeats 8000000 in
set_option maxRecDepth 100000 in
theorem impl_turn.go (k B : Nat) (q1 q2 : Nat) (A0 : Option Addr) (c0 : Nat) (l0 : List Int) (A1 : Option Addr) (c1 : Nat) (l1 : List Int) (o b : Int) (rb t2 : Bool) (m0 m1 : List Int) (m2 m3 : Int) (r0 r1 : List Int) (r2 r3 : Int) (w : World) (hB : B ≤ w.heap.size)
    (hr0 : Kd.C (Kd.int .i64) w A0 l0.length l0) (hc0 : l0.length ≤ c0) (hr1 : Kd.C (Kd.int .i64) w A1 l1.length l1) (hc1 : l1.length ≤ c1)
    (hv : impl_ViewOk.f k l0 l1 o b = some true) (hl0 : slices_Clone_int_int.f l0 = some l0) (hl1 : slices_Clone_int_int.f l1 = some l1)
    (hby : ∀ (W : World) (gw : Nat) (B0 B1 : Option Addr) (d0 d1 : Nat), Below w.heap.size w W → w.heap.size ≤ gw → W.heap[gw]? = some (.cells #[.slice B0 l0.length d0, .slice B1 l1.length d1, .int .i64 o, .int .i64 b] 26 (0, 0)) →
      Kd.R (Kd.int .i64) 3 W w.heap.size (fun k_ => some k_ ≠ (.slice B1 l1.length d1 : Value).ownBlock) (.slice B0 l0.length d0) l0 → Kd.R (Kd.int .i64) 3 W w.heap.size (fun k_ => some k_ ≠ (.slice B0 l0.length d0 : Value).ownBlock) (.slice B1 l1.length d1) l1 →
      Calls Try.prog 51 #[.pointer (some ⟨gw, 0, none⟩), .pointer (some ⟨q1, 0, none⟩), .pointer (some ⟨q2, 0, none⟩)] W fun e W' => ∃ v0 v1 : Value, e = .returned (.bool rb) ∧ W'.heap[gw]? = some (.cells #[v0, v1, .int .i64 m2, .int .i64 m3] 26 (0, 0)) ∧ Kd.R (Kd.int .i64) 3 W' w.heap.size (fun k_ => some k_ ≠ (v1 : Value).ownBlock) v0 m0 ∧ Kd.R (Kd.int .i64) 3 W' w.heap.size (fun k_ => some k_ ≠ (v0 : Value).ownBlock) v1 m1 ∧
        (∀ (g : Nat) (cs : Array Value), g ≠ gw → W.heap[g]? = some (.cells cs 26 (0, 0)) → W'.heap[g]? = some (.cells cs 26 (0, 0))) ∧ W.heap.size ≤ W'.heap.size ∧ Below B w W')
    (hv2 : rb = true → impl_ViewOk.f k m0 m1 m2 m3 = some t2) (hres : (if rb = true then (if t2 = true then (m0, m1, m2, m3) else ([], [], 0, 0)) else ([], [], 0, 0)) = (r0, r1, r2, r3)) :
    Calls Try.prog 50 #[.agg #[.slice A0 l0.length c0, .slice A1 l1.length c1, .int .i64 o, .int .i64 b], .func (.func 51) #[] #[.pointer (some ⟨q1, 0, none⟩), .pointer (some ⟨q2, 0, none⟩)]] w fun e w' => ∃ v0_ v1_ : Value, e = .returned (.agg #[v0_, v1_, .int .i64 r2, .int .i64 r3]) ∧ Kd.R (Kd.int .i64) 3 w' w.heap.size (fun k_ => some k_ ≠ (v1_ : Value).ownBlock) v0_ r0 ∧ Kd.R (Kd.int .i64) 3 w' w.heap.size (fun k_ => some k_ ≠ (v0_ : Value).ownBlock) v1_ r1 ∧ Below B w w' ∧ (∀ (g : Nat) (cs : Array Value), w.heap[g]? = some (.cells cs 26 (0, 0)) → w'.heap[g]? = some (.cells cs 26 (0, 0))) := by
  have hu26 := Try.underlying26
  have HR0 := Aside0.mk hr0
  have HC0 := Aside0.mk hc0
  have HR1 := Aside0.mk hr1
  have HC1 := Aside0.mk hc1
  have HV := Aside0.mk hv
  have HL0 := Aside0.mk hl0
  have HL1 := Aside0.mk hl1
  have HBY := Aside0.mk hby
  have HBS := Aside0.mk hB
  clear hr0 hc0 hr1 hc1 hv hl0 hl1 hby hB
  have HB := Aside0.mk (Below.refl w.heap.size w)
  go_enter Try.func50, Try.ntmps50
  go_upto_region 3 with (first | ((with_reducible refine gate_dst (N := 2) rfl ?_); refine box_event ?hg (N := 2) ?hd (cs := #[.slice A0 l0.length c0, .slice A1 l1.length c1, .int .i64 o, .int .i64 b]) (t := 26) ?hr ?_; (case hd => rfl); (case hg => rfl); (case hr => first | (go_simp; done) | (go_simp; rfl)); intro gv hg_gv w_gv hbox hb; have ng_ := Aside0.mk (by rw [hg_gv]; exact (below_size (by repeat (first | (with_reducible first | exact HB.out | apply below_alloc | apply pw_below_drewN | apply below_drew1) | exact HB.out))) : w.heap.size ≤ gv); have nb_ := Aside0.mk (below_step (by repeat (first | (with_reducible first | exact HB.out | apply below_alloc | apply pw_below_drewN | apply below_drew1) | exact HB.out)) hb); clear HB ; have HB := nb_; clear nb_  hb; have BKv := Aside0.mk hbox; have GBKv := ng_; clear hbox ng_ hg_gv) | ((with_reducible refine gate_dst (N := 4) rfl ?_); refine box_event ?hg (N := 4) ?hd (cs := #[.slice none 0 0, .slice none 0 0, .int .i64 0, .int .i64 0]) (t := 26) ?hr ?_; (case hd => rfl); (case hg => rfl); (case hr => first | (go_simp; done) | (go_simp; rfl)); intro gr hg_gr w_gr hbox hb; have ng_ := Aside0.mk (by rw [hg_gr]; exact (below_size (by repeat (first | (with_reducible first | exact HB.out | apply below_alloc | apply pw_below_drewN | apply below_drew1) | exact HB.out))) : w.heap.size ≤ gr); have nb_ := Aside0.mk (below_step (by repeat (first | (with_reducible first | exact HB.out | apply below_alloc | apply pw_below_drewN | apply below_drew1) | exact HB.out)) hb); have n0_ := Aside0.mk (blk_below (g := gv) (o := .cells #[.slice A0 l0.length c0, .slice A1 l1.length c1, .int .i64 o, .int .i64 b] 26 (0, 0)) (by (with_reducible repeat (first | refine blk_drewN ?_ _ | refine blk_drew ?_ | refine blk_alloc ?_ _)); exact BKv.out) hb); clear HB BKv; have HB := nb_; have BKv := n0_; clear nb_ n0_ hb; have BKr := Aside0.mk hbox; have GBKr := ng_; clear hbox ng_ hg_gr; have hcv0 : w_gr.cell? ⟨gv, 0, none⟩ = some (.slice A0 l0.length c0) := (blk_cell BKv.out 0).trans rfl; have hcv1 : w_gr.cell? ⟨gv, 1, none⟩ = some (.slice A1 l1.length c1) := (blk_cell BKv.out 1).trans rfl; have hcv2 : w_gr.cell? ⟨gv, 2, none⟩ = some (.int .i64 o) := (blk_cell BKv.out 2).trans rfl; have hcv3 : w_gr.cell? ⟨gv, 3, none⟩ = some (.int .i64 b) := (blk_cell BKv.out 3).trans rfl) | (go_at_call 80; refine (impl_ViewOk.calls k _ _ l0 _ _ l1 o b true _ ?s1 ?s2 ?s3 ?s4 HV.out).mono ?_; (case s1 => repeat (first | exact (Kd.C_below HR0.out HB.out) | (with_reducible refine Kd.C_alloc ?_ _) | (with_reducible refine Kd.C_drewN ?_ _) | (with_reducible refine Kd.C_drew ?_))); (case s2 => exact HC0.out); (case s3 => repeat (first | exact (Kd.C_below HR1.out HB.out) | (with_reducible refine Kd.C_alloc ?_ _) | (with_reducible refine Kd.C_drewN ?_ _) | (with_reducible refine Kd.C_drew ?_))); (case s4 => exact HC1.out); rintro e w1 ⟨rfl, hb⟩; have nb_ := Aside0.mk (below_step (by repeat (first | (with_reducible first | exact HB.out | apply below_alloc | apply pw_below_drewN | apply below_drew1) | exact HB.out)) hb); have n0_ := Aside0.mk (blk_below (g := gv) (o := .cells #[.slice A0 l0.length c0, .slice A1 l1.length c1, .int .i64 o, .int .i64 b] 26 (0, 0)) (by (with_reducible repeat (first | refine blk_drewN ?_ _ | refine blk_drew ?_ | refine blk_alloc ?_ _)); exact BKv.out) hb); have n1_ := Aside0.mk (blk_below (g := gr) (o := .cells #[.slice none 0 0, .slice none 0 0, .int .i64 0, .int .i64 0] 26 (0, 0)) (by (with_reducible repeat (first | refine blk_drewN ?_ _ | refine blk_drew ?_ | refine blk_alloc ?_ _)); exact BKr.out) hb); clear HB BKv BKr; have HB := nb_; have BKv := n0_; have BKr := n1_; clear nb_ n0_ n1_ hb; clear hcv0 hcv1 hcv2 hcv3; have hcv0 : w1.cell? ⟨gv, 0, none⟩ = some (.slice A0 l0.length c0) := (blk_cell BKv.out 0).trans rfl; have hcv1 : w1.cell? ⟨gv, 1, none⟩ = some (.slice A1 l1.length c1) := (blk_cell BKv.out 1).trans rfl; have hcv2 : w1.cell? ⟨gv, 2, none⟩ = some (.int .i64 o) := (blk_cell BKv.out 2).trans rfl; have hcv3 : w1.cell? ⟨gv, 3, none⟩ = some (.int .i64 b) := (blk_cell BKv.out 3).trans rfl))
  (try simp only [Act.put, List.setIfInBounds_toArray, List.set_cons_zero, List.set_cons_succ])
  go_cut [5] (fun v5 wc => ∃ (gw : Nat) (B0 B1 : Option Addr) (d0 d1 : Nat), v5 = .pointer (some ⟨gw, 0, none⟩) ∧ Aside0 (wc.heap[gw]? = some (.cells #[.slice B0 l0.length d0, .slice B1 l1.length d1, .int .i64 o, .int .i64 b] 26 (0, 0))) ∧ Aside0 (Kd.R (Kd.int .i64) 3 wc w.heap.size (fun k_ => some k_ ≠ (.slice B1 l1.length d1 : Value).ownBlock) (.slice B0 l0.length d0) l0) ∧ Aside0 (Kd.R (Kd.int .i64) 3 wc w.heap.size (fun k_ => some k_ ≠ (.slice B0 l0.length d0 : Value).ownBlock) (.slice B1 l1.length d1) l1) ∧ Aside0 (w.heap.size ≤ gw) ∧ Aside0 (gw ≠ gr) ∧ Aside0 (wc.heap[gr]? = some (.cells #[.slice none 0 0, .slice none 0 0, .int .i64 0, .int .i64 0] 26 (0, 0))) ∧ Aside0 (Below w.heap.size w wc))
  case first =>
    go_region_held3 (fun w' => w'.cell? ⟨gv, 0, none⟩ = some (.slice A0 l0.length c0) ∧ w'.cell? ⟨gv, 1, none⟩ = some (.slice A1 l1.length c1) ∧ w'.cell? ⟨gv, 2, none⟩ = some (.int .i64 o) ∧ w'.cell? ⟨gv, 3, none⟩ = some (.int .i64 b)) (first | (exact ⟨(blk_cell (by (with_reducible repeat (first | refine blk_drewN ?_ _ | refine blk_drew ?_ | refine blk_alloc ?_ _)); exact BKv.out) 0).trans rfl, (blk_cell (by (with_reducible repeat (first | refine blk_drewN ?_ _ | refine blk_drew ?_ | refine blk_alloc ?_ _)); exact BKv.out) 1).trans rfl, (blk_cell (by (with_reducible repeat (first | refine blk_drewN ?_ _ | refine blk_drew ?_ | refine blk_alloc ?_ _)); exact BKv.out) 2).trans rfl, (blk_cell (by (with_reducible repeat (first | refine blk_drewN ?_ _ | refine blk_drew ?_ | refine blk_alloc ?_ _)); exact BKv.out) 3).trans rfl⟩) | (exact ⟨(blk_cell (blk_far (p := ⟨_, 3, none⟩) (blk_far (p := ⟨_, 2, none⟩) (blk_far (p := ⟨_, 1, none⟩) (blk_far (p := ⟨_, 0, none⟩) BKv.out HZN.out.1 _) HZN.out.1 _) HZN.out.1 _) HZN.out.1 _) 0).trans rfl, (blk_cell (blk_far (p := ⟨_, 3, none⟩) (blk_far (p := ⟨_, 2, none⟩) (blk_far (p := ⟨_, 1, none⟩) (blk_far (p := ⟨_, 0, none⟩) BKv.out HZN.out.1 _) HZN.out.1 _) HZN.out.1 _) HZN.out.1 _) 1).trans rfl, (blk_cell (blk_far (p := ⟨_, 3, none⟩) (blk_far (p := ⟨_, 2, none⟩) (blk_far (p := ⟨_, 1, none⟩) (blk_far (p := ⟨_, 0, none⟩) BKv.out HZN.out.1 _) HZN.out.1 _) HZN.out.1 _) HZN.out.1 _) 2).trans rfl, (blk_cell (blk_far (p := ⟨_, 3, none⟩) (blk_far (p := ⟨_, 2, none⟩) (blk_far (p := ⟨_, 1, none⟩) (blk_far (p := ⟨_, 0, none⟩) BKv.out HZN.out.1 _) HZN.out.1 _) HZN.out.1 _) HZN.out.1 _) 3).trans rfl⟩) | go_keep) (first | (go_at_call_of 53 (Value.slice A0 l0.length c0); refine (slices_Clone_int_int.calls _ _ l0 l0 _ ?s1 HC0.out HL0.out).mono ?_; (case s1 => repeat (first | exact (Kd.C_below HR0.out HB.out) | (with_reducible refine Kd.C_alloc ?_ _) | (with_reducible refine Kd.C_drewN ?_ _) | (with_reducible refine Kd.C_drew ?_))); rintro e w2 ⟨v0, rfl, ho0, hb⟩; obtain ⟨B0, d0, rfl⟩ := Kd.R_slice ho0; (first | (have hz_ := blk_below (o := .cells #[.slice none 0 0, .slice none 0 0, .int .i64 0, .int .i64 0] 26 (0, 0)) HZ.out hb; clear HZ; have HZ := Aside0.mk hz_; clear hz_) | (have hz_ := blk_below (o := .cells #[.slice none 0 0, .slice none 0 0, .int .i64 0, .int .i64 0] 26 (0, 0)) (by (with_reducible repeat (first | refine blk_drewN ?_ _ | refine blk_drew ?_)); exact heap_alloc_new _ _) hb; have hzn_ := And.intro (Nat.ne_of_lt (blk_lt BKv.out)) (Nat.ne_of_lt (blk_lt BKr.out)); have hzl_ := below_size HB.out; have HZ := Aside0.mk hz_; have HZN := Aside0.mk hzn_; have HZL := Aside0.mk hzl_; clear hz_ hzn_ hzl_) | skip); have nb_ := Aside0.mk (below_step (by repeat (first | (with_reducible first | exact HB.out | apply below_alloc | apply pw_below_drewN | apply below_drew1) | exact HB.out)) hb); have n0_ := Aside0.mk (blk_below (g := gv) (o := .cells #[.slice A0 l0.length c0, .slice A1 l1.length c1, .int .i64 o, .int .i64 b] 26 (0, 0)) (by (with_reducible repeat (first | refine blk_drewN ?_ _ | refine blk_drew ?_ | refine blk_alloc ?_ _)); exact BKv.out) hb); have n1_ := Aside0.mk (blk_below (g := gr) (o := .cells #[.slice none 0 0, .slice none 0 0, .int .i64 0, .int .i64 0] 26 (0, 0)) (by (with_reducible repeat (first | refine blk_drewN ?_ _ | refine blk_drew ?_ | refine blk_alloc ?_ _)); exact BKr.out) hb); have no_ := Aside0.mk (Kd.R_lower ho0 (below_size (by repeat (first | (with_reducible first | exact HB.out | apply below_alloc | apply pw_below_drewN | apply below_drew1) | exact HB.out)))); clear ho0 ; have HO0 := no_; clear HB BKv BKr; have HB := nb_; have BKv := n0_; have BKr := n1_; clear nb_ n0_ n1_ hb) | (go_at_call_of 53 (Value.slice A1 l1.length c1); refine (slices_Clone_int_int.calls _ _ l1 l1 _ ?s1 HC1.out HL1.out).mono ?_; (case s1 => repeat (first | exact (Kd.C_below HR1.out HB.out) | (with_reducible refine Kd.C_alloc ?_ _) | (with_reducible refine Kd.C_drewN ?_ _) | (with_reducible refine Kd.C_drew ?_))); rintro e w3 ⟨v1, rfl, ho1, hb⟩; obtain ⟨B1, d1, rfl⟩ := Kd.R_slice ho1; (first | (have hz_ := blk_below (o := .cells #[.slice none 0 0, .slice none 0 0, .int .i64 0, .int .i64 0] 26 (0, 0)) HZ.out hb; clear HZ; have HZ := Aside0.mk hz_; clear hz_) | (have hz_ := blk_below (o := .cells #[.slice none 0 0, .slice none 0 0, .int .i64 0, .int .i64 0] 26 (0, 0)) (by (with_reducible repeat (first | refine blk_drewN ?_ _ | refine blk_drew ?_)); exact heap_alloc_new _ _) hb; have hzn_ := And.intro (Nat.ne_of_lt (blk_lt BKv.out)) (Nat.ne_of_lt (blk_lt BKr.out)); have hzl_ := below_size HB.out; have HZ := Aside0.mk hz_; have HZN := Aside0.mk hzn_; have HZL := Aside0.mk hzl_; clear hz_ hzn_ hzl_) | skip); have nb_ := Aside0.mk (below_step (by repeat (first | (with_reducible first | exact HB.out | apply below_alloc | apply pw_below_drewN | apply below_drew1) | exact HB.out)) hb); have n0_ := Aside0.mk (blk_below (g := gv) (o := .cells #[.slice A0 l0.length c0, .slice A1 l1.length c1, .int .i64 o, .int .i64 b] 26 (0, 0)) (by (with_reducible repeat (first | refine blk_drewN ?_ _ | refine blk_drew ?_ | refine blk_alloc ?_ _)); exact BKv.out) hb); have n1_ := Aside0.mk (blk_below (g := gr) (o := .cells #[.slice none 0 0, .slice none 0 0, .int .i64 0, .int .i64 0] 26 (0, 0)) (by (with_reducible repeat (first | refine blk_drewN ?_ _ | refine blk_drew ?_ | refine blk_alloc ?_ _)); exact BKr.out) hb); have nr_ := Aside0.mk (Kd.R_elder (by (with_reducible repeat (first | apply Kd.R_alloc | apply Kd.R_drewN | apply Kd.R_drew)); exact HO0.out) ho1 hb); replace ho1 := Kd.R_newR ho1 (by (with_reducible repeat (first | apply Kd.R_alloc | apply Kd.R_drewN | apply Kd.R_drew)); exact HO0.out); clear HO0; have HO0 := nr_; have no_ := Aside0.mk (Kd.R_lower ho1 (below_size (by repeat (first | (with_reducible first | exact HB.out | apply below_alloc | apply pw_below_drewN | apply below_drew1) | exact HB.out)))); clear ho1 ; have HO1 := no_; clear HB BKv BKr; have HB := nb_; have BKv := n0_; have BKr := n1_; clear nb_ n0_ n1_ hb; (try (have hz0 : w3.cell? ⟨_, 0, none⟩ = some (Value.slice none 0 0) := (blk_cell HZ.out 0).trans rfl; have hzf0 := blk_frozen HZ.out 0; have hz1 : w3.cell? ⟨_, 1, none⟩ = some (Value.slice none 0 0) := (blk_cell HZ.out 1).trans rfl; have hzf1 := blk_frozen HZ.out 1; have hz2 : w3.cell? ⟨_, 2, none⟩ = some (Value.int .i64 0) := (blk_cell HZ.out 2).trans rfl; have hzf2 := blk_frozen HZ.out 2; have hz3 : w3.cell? ⟨_, 3, none⟩ = some (Value.int .i64 0) := (blk_cell HZ.out 3).trans rfl; have hzf3 := blk_frozen HZ.out 3))))
    · go_wp2
      go_meet
      case rel => exact ⟨w3.heap.size, B0, B1, d0, d1, rfl, ⟨by (with_reducible repeat (first | refine blk_drewN ?_ _ | refine blk_drew ?_)); exact heap_alloc_new _ _⟩, ⟨by (with_reducible repeat (first | apply Kd.R_alloc | apply Kd.R_drewN | apply Kd.R_drew)); exact Kd.R_mono HO0.out (fun _ hk => hk.2)⟩, ⟨by (with_reducible repeat (first | apply Kd.R_alloc | apply Kd.R_drewN | apply Kd.R_drew)); exact Kd.R_mono HO1.out (fun _ hk => hk.2)⟩, ⟨below_size HB.out⟩, ⟨(Nat.ne_of_lt (blk_lt BKr.out)).symm⟩, ⟨(by (with_reducible repeat (first | refine blk_drewN ?_ _ | refine blk_drew ?_ | refine blk_alloc ?_ _)); exact BKr.out)⟩, ⟨by repeat (first | (with_reducible first | exact HB.out | apply below_alloc | apply pw_below_drewN | apply below_drew1) | exact HB.out)⟩⟩
    all_goals
      go_wp2
      go_meet
      case rel => exact ⟨_, B0, B1, d0, d1, rfl, ⟨by (with_reducible repeat (first | refine blk_drewN ?_ _ | refine blk_drew ?_)); refine blk_put (cs := #[.slice B0 l0.length d0, .slice B1 l1.length d1, .int .i64 o, .int .i64 0]) ?_ 3 _ rfl; refine blk_put (cs := #[.slice B0 l0.length d0, .slice B1 l1.length d1, .int .i64 0, .int .i64 0]) ?_ 2 _ rfl; refine blk_put (cs := #[.slice B0 l0.length d0, .slice none 0 0, .int .i64 0, .int .i64 0]) ?_ 1 _ rfl; refine blk_put (cs := #[.slice none 0 0, .slice none 0 0, .int .i64 0, .int .i64 0]) ?_ 0 _ rfl; exact HZ.out⟩, ⟨by (with_reducible repeat (first | apply Kd.R_alloc | apply Kd.R_drewN | apply Kd.R_drew)); exact Kd.R_mono (Kd.R_far (p := ⟨_, 3, none⟩) (Kd.R_far (p := ⟨_, 2, none⟩) (Kd.R_far (p := ⟨_, 1, none⟩) (Kd.R_far (p := ⟨_, 0, none⟩) (Kd.R_types HO0.out HZ.out (by decide)) (fun _ hk => hk.2) _) (fun _ hk => hk.2) _) (fun _ hk => hk.2) _) (fun _ hk => hk.2) _) (fun _ hk => hk.1.2)⟩, ⟨by (with_reducible repeat (first | apply Kd.R_alloc | apply Kd.R_drewN | apply Kd.R_drew)); exact Kd.R_mono (Kd.R_far (p := ⟨_, 3, none⟩) (Kd.R_far (p := ⟨_, 2, none⟩) (Kd.R_far (p := ⟨_, 1, none⟩) (Kd.R_far (p := ⟨_, 0, none⟩) (Kd.R_types HO1.out HZ.out (by decide)) (fun _ hk => hk.2) _) (fun _ hk => hk.2) _) (fun _ hk => hk.2) _) (fun _ hk => hk.2) _) (fun _ hk => hk.1.2)⟩, ⟨HZL.out⟩, ⟨HZN.out.2.symm⟩, ⟨by (with_reducible repeat (first | refine blk_drewN ?_ _ | refine blk_drew ?_)); exact blk_far (p := ⟨_, 3, none⟩) (blk_far (p := ⟨_, 2, none⟩) (blk_far (p := ⟨_, 1, none⟩) (blk_far (p := ⟨_, 0, none⟩) BKr.out HZN.out.2 _) HZN.out.2 _) HZN.out.2 _) HZN.out.2 _⟩, ⟨by repeat (first | (with_reducible first | exact HB.out | apply below_alloc | apply pw_below_drewN | apply below_drew1 | refine below_set ?_ HZL.out) | exact HB.out)⟩⟩
  case rest =>
    obtain ⟨gw, B0, B1, d0, d1, rfl, BKw, HO0, HO1, GW, GWR, BKr, HB⟩ := hcut
    try clear hcv0 hcv1 hcv2 hcv3
    have GRB := Aside0.mk (Nat.le_trans HBS.out GBKr.out)
    cases rb with
    | false =>
      obtain ⟨rfl, rfl, rfl, rfl⟩ : r0 = [] ∧ r1 = [] ∧ r2 = 0 ∧ r3 = 0 := by simpa using hres.symm
      go_wp2_with (first | (go_at_call 51; refine (HBY.out _ gw B0 B1 d0 d1 HB.out GW.out BKw.out HO0.out HO1.out).mono ?_; rintro e w4 ⟨v0, v1, rfl, hw, ho0, ho1, hk, hsz, hbb⟩; obtain ⟨E0, f0, rfl⟩ := Kd.R_slice ho0; obtain ⟨E1, f1, rfl⟩ := Kd.R_slice ho1; have n0_ := Aside0.mk (hk gr _ GWR.out.symm BKr.out); have h26_ : ∀ (g : Nat) (cs : Array Value), w.heap[g]? = some (.cells cs 26 (0, 0)) → w4.heap[g]? = some (.cells cs 26 (0, 0)) := fun g cs h_ => hk g cs (by have := blk_lt h_; have := GW.out; omega) (blk_below h_ HB.out); have H26 := Aside0.mk h26_; clear h26_; have HSZ := Aside0.mk (Nat.le_trans (Nat.le_trans HBS.out (below_size HB.out)) hsz); clear HB BKw HO0 HO1 BKr hk hsz; have HBB := Aside0.mk hbb; have BKw := Aside0.mk hw; have HO0 := Aside0.mk ho0; have HO1 := Aside0.mk ho1; have BKr := n0_; clear n0_ hbb hw ho0 ho1; have hcw0 : w4.cell? ⟨gw, 0, none⟩ = some (.slice E0 m0.length f0) := (blk_cell BKw.out 0).trans rfl; have hcw1 : w4.cell? ⟨gw, 1, none⟩ = some (.slice E1 m1.length f1) := (blk_cell BKw.out 1).trans rfl; have hcw2 : w4.cell? ⟨gw, 2, none⟩ = some (.int .i64 m2) := (blk_cell BKw.out 2).trans rfl; have hcw3 : w4.cell? ⟨gw, 3, none⟩ = some (.int .i64 m3) := (blk_cell BKw.out 3).trans rfl; have hcr0 : w4.cell? ⟨gr, 0, none⟩ = some (.slice none 0 0) := (blk_cell BKr.out 0).trans rfl; have hcr1 : w4.cell? ⟨gr, 1, none⟩ = some (.slice none 0 0) := (blk_cell BKr.out 1).trans rfl; have hcr2 : w4.cell? ⟨gr, 2, none⟩ = some (.int .i64 0) := (blk_cell BKr.out 2).trans rfl; have hcr3 : w4.cell? ⟨gr, 3, none⟩ = some (.int .i64 0) := (blk_cell BKr.out 3).trans rfl; have hcrf0 := blk_frozen BKr.out 0; have hcrf1 := blk_frozen BKr.out 1; have hcrf2 := blk_frozen BKr.out 2; have hcrf3 := blk_frozen BKr.out 3))
      refine bodyPost_ret (results_cell_row rfl _ _ gr 26 #[.slice none 0 0, .slice none 0 0, .int .i64 0, .int .i64 0] (0, 0) _ rfl (by (with_reducible repeat (first | refine blk_drewN ?_ _ | refine blk_drew ?_)); refine blk_put (cs := #[.slice none 0 0, .slice none 0 0, .int .i64 0, .int .i64 0]) ?_ 3 _ rfl; (with_reducible repeat (first | refine blk_drewN ?_ _ | refine blk_drew ?_)); refine blk_put (cs := #[.slice none 0 0, .slice none 0 0, .int .i64 0, .int .i64 0]) ?_ 2 _ rfl; (with_reducible repeat (first | refine blk_drewN ?_ _ | refine blk_drew ?_)); refine blk_put (cs := #[.slice none 0 0, .slice none 0 0, .int .i64 0, .int .i64 0]) ?_ 1 _ rfl; (with_reducible repeat (first | refine blk_drewN ?_ _ | refine blk_drew ?_)); refine blk_put (cs := #[.slice none 0 0, .slice none 0 0, .int .i64 0, .int .i64 0]) ?_ 0 _ rfl; (with_reducible repeat (first | refine blk_drewN ?_ _ | refine blk_drew ?_)); exact BKr.out) Try.underlying26 rfl (by kernel_rfl)) rfl ?_
      exact ⟨_, _, rfl, Kd.R_nil _ _ _ _ _, Kd.R_nil _ _ _ _ _, by (with_reducible repeat (first | exact HBB.out | apply pw_below_drewN | apply below_drew | (refine Below.setCell ?_ GRB.out _))), fun g cs h_ => by have hne_ : g ≠ gr := (by have := blk_lt h_; have := GBKr.out; omega); (with_reducible repeat (first | refine blk_drewN ?_ _ | refine blk_drew ?_ | refine blk_far ?_ hne_ _)); exact H26.out g cs h_⟩
    | true =>
      have HV2 := Aside0.mk (hv2 rfl)
      clear hv2
      cases t2 with
      | false =>
      obtain ⟨rfl, rfl, rfl, rfl⟩ : r0 = [] ∧ r1 = [] ∧ r2 = 0 ∧ r3 = 0 := by simpa using hres.symm
      go_wp2_with (first | (go_at_call 51; refine (HBY.out _ gw B0 B1 d0 d1 HB.out GW.out BKw.out HO0.out HO1.out).mono ?_; rintro e w4 ⟨v0, v1, rfl, hw, ho0, ho1, hk, hsz, hbb⟩; obtain ⟨E0, f0, rfl⟩ := Kd.R_slice ho0; obtain ⟨E1, f1, rfl⟩ := Kd.R_slice ho1; have n0_ := Aside0.mk (hk gr _ GWR.out.symm BKr.out); have h26_ : ∀ (g : Nat) (cs : Array Value), w.heap[g]? = some (.cells cs 26 (0, 0)) → w4.heap[g]? = some (.cells cs 26 (0, 0)) := fun g cs h_ => hk g cs (by have := blk_lt h_; have := GW.out; omega) (blk_below h_ HB.out); have H26 := Aside0.mk h26_; clear h26_; have HSZ := Aside0.mk (Nat.le_trans (Nat.le_trans HBS.out (below_size HB.out)) hsz); clear HB BKw HO0 HO1 BKr hk hsz; have HBB := Aside0.mk hbb; have BKw := Aside0.mk hw; have HO0 := Aside0.mk ho0; have HO1 := Aside0.mk ho1; have BKr := n0_; clear n0_ hbb hw ho0 ho1; have hcw0 : w4.cell? ⟨gw, 0, none⟩ = some (.slice E0 m0.length f0) := (blk_cell BKw.out 0).trans rfl; have hcw1 : w4.cell? ⟨gw, 1, none⟩ = some (.slice E1 m1.length f1) := (blk_cell BKw.out 1).trans rfl; have hcw2 : w4.cell? ⟨gw, 2, none⟩ = some (.int .i64 m2) := (blk_cell BKw.out 2).trans rfl; have hcw3 : w4.cell? ⟨gw, 3, none⟩ = some (.int .i64 m3) := (blk_cell BKw.out 3).trans rfl; have hcr0 : w4.cell? ⟨gr, 0, none⟩ = some (.slice none 0 0) := (blk_cell BKr.out 0).trans rfl; have hcr1 : w4.cell? ⟨gr, 1, none⟩ = some (.slice none 0 0) := (blk_cell BKr.out 1).trans rfl; have hcr2 : w4.cell? ⟨gr, 2, none⟩ = some (.int .i64 0) := (blk_cell BKr.out 2).trans rfl; have hcr3 : w4.cell? ⟨gr, 3, none⟩ = some (.int .i64 0) := (blk_cell BKr.out 3).trans rfl; have hcrf0 := blk_frozen BKr.out 0; have hcrf1 := blk_frozen BKr.out 1; have hcrf2 := blk_frozen BKr.out 2; have hcrf3 := blk_frozen BKr.out 3) | (go_at_call 80; refine (impl_ViewOk.calls k _ _ m0 _ _ m1 m2 m3 _ _ ?s1 ?s2 ?s3 ?s4 HV2.out).mono ?_; (case s1 => exact (Kd.R_reads' HO0.out).2.2); (case s2 => exact (Kd.R_reads' HO0.out).2.1); (case s3 => exact (Kd.R_reads' HO1.out).2.2); (case s4 => exact (Kd.R_reads' HO1.out).2.1); rintro e w5 ⟨rfl, hb⟩; have n0_ := Aside0.mk (Kd.R_below HO0.out hb); have n1_ := Aside0.mk (Kd.R_below HO1.out hb); have n2_ := Aside0.mk (blk_below BKw.out hb); have n3_ := Aside0.mk (blk_below BKr.out hb); have n4_ := Aside0.mk (below_then HBB.out HSZ.out hb); have n5_ : Aside0 (∀ (g : Nat) (cs : Array Value), w.heap[g]? = some (.cells cs 26 (0, 0)) → w5.heap[g]? = some (.cells cs 26 (0, 0))) := ⟨fun g cs h_ => blk_below (H26.out g cs h_) hb⟩; clear H26; have H26 := n5_; clear n5_; clear HO0 HO1 BKw BKr HBB hb hcw0 hcw1 hcw2 hcw3 hcr0 hcr1 hcr2 hcr3 hcrf0 hcrf1 hcrf2 hcrf3; have HO0 := n0_; have HO1 := n1_; have BKw := n2_; have BKr := n3_; have HBB := n4_; clear n0_ n1_ n2_ n3_ n4_; have hcw0 : w5.cell? ⟨gw, 0, none⟩ = some (.slice E0 m0.length f0) := (blk_cell BKw.out 0).trans rfl; have hcw1 : w5.cell? ⟨gw, 1, none⟩ = some (.slice E1 m1.length f1) := (blk_cell BKw.out 1).trans rfl; have hcw2 : w5.cell? ⟨gw, 2, none⟩ = some (.int .i64 m2) := (blk_cell BKw.out 2).trans rfl; have hcw3 : w5.cell? ⟨gw, 3, none⟩ = some (.int .i64 m3) := (blk_cell BKw.out 3).trans rfl; have hcr0 : w5.cell? ⟨gr, 0, none⟩ = some (.slice none 0 0) := (blk_cell BKr.out 0).trans rfl; have hcr1 : w5.cell? ⟨gr, 1, none⟩ = some (.slice none 0 0) := (blk_cell BKr.out 1).trans rfl; have hcr2 : w5.cell? ⟨gr, 2, none⟩ = some (.int .i64 0) := (blk_cell BKr.out 2).trans rfl; have hcr3 : w5.cell? ⟨gr, 3, none⟩ = some (.int .i64 0) := (blk_cell BKr.out 3).trans rfl; have hcrf0 := blk_frozen BKr.out 0; have hcrf1 := blk_frozen BKr.out 1; have hcrf2 := blk_frozen BKr.out 2; have hcrf3 := blk_frozen BKr.out 3))
      refine bodyPost_ret (results_cell_row rfl _ _ gr 26 #[.slice none 0 0, .slice none 0 0, .int .i64 0, .int .i64 0] (0, 0) _ rfl (by (with_reducible repeat (first | refine blk_drewN ?_ _ | refine blk_drew ?_)); refine blk_put (cs := #[.slice none 0 0, .slice none 0 0, .int .i64 0, .int .i64 0]) ?_ 3 _ rfl; (with_reducible repeat (first | refine blk_drewN ?_ _ | refine blk_drew ?_)); refine blk_put (cs := #[.slice none 0 0, .slice none 0 0, .int .i64 0, .int .i64 0]) ?_ 2 _ rfl; (with_reducible repeat (first | refine blk_drewN ?_ _ | refine blk_drew ?_)); refine blk_put (cs := #[.slice none 0 0, .slice none 0 0, .int .i64 0, .int .i64 0]) ?_ 1 _ rfl; (with_reducible repeat (first | refine blk_drewN ?_ _ | refine blk_drew ?_)); refine blk_put (cs := #[.slice none 0 0, .slice none 0 0, .int .i64 0, .int .i64 0]) ?_ 0 _ rfl; (with_reducible repeat (first | refine blk_drewN ?_ _ | refine blk_drew ?_)); exact BKr.out) Try.underlying26 rfl (by kernel_rfl)) rfl ?_
      exact ⟨_, _, rfl, Kd.R_nil _ _ _ _ _, Kd.R_nil _ _ _ _ _, by (with_reducible repeat (first | exact HBB.out | apply pw_below_drewN | apply below_drew | (refine Below.setCell ?_ GRB.out _))), fun g cs h_ => by have hne_ : g ≠ gr := (by have := blk_lt h_; have := GBKr.out; omega); (with_reducible repeat (first | refine blk_drewN ?_ _ | refine blk_drew ?_ | refine blk_far ?_ hne_ _)); exact H26.out g cs h_⟩
      | true =>
      obtain ⟨rfl, rfl, rfl, rfl⟩ : m0 = r0 ∧ m1 = r1 ∧ m2 = r2 ∧ m3 = r3 := by simpa using hres
      go_wp2_with (first | (go_at_call 51; refine (HBY.out _ gw B0 B1 d0 d1 HB.out GW.out BKw.out HO0.out HO1.out).mono ?_; rintro e w4 ⟨v0, v1, rfl, hw, ho0, ho1, hk, hsz, hbb⟩; obtain ⟨E0, f0, rfl⟩ := Kd.R_slice ho0; obtain ⟨E1, f1, rfl⟩ := Kd.R_slice ho1; have n0_ := Aside0.mk (hk gr _ GWR.out.symm BKr.out); have h26_ : ∀ (g : Nat) (cs : Array Value), w.heap[g]? = some (.cells cs 26 (0, 0)) → w4.heap[g]? = some (.cells cs 26 (0, 0)) := fun g cs h_ => hk g cs (by have := blk_lt h_; have := GW.out; omega) (blk_below h_ HB.out); have H26 := Aside0.mk h26_; clear h26_; have HSZ := Aside0.mk (Nat.le_trans (Nat.le_trans HBS.out (below_size HB.out)) hsz); clear HB BKw HO0 HO1 BKr hk hsz; have HBB := Aside0.mk hbb; have BKw := Aside0.mk hw; have HO0 := Aside0.mk ho0; have HO1 := Aside0.mk ho1; have BKr := n0_; clear n0_ hbb hw ho0 ho1; have hcw0 : w4.cell? ⟨gw, 0, none⟩ = some (.slice E0 m0.length f0) := (blk_cell BKw.out 0).trans rfl; have hcw1 : w4.cell? ⟨gw, 1, none⟩ = some (.slice E1 m1.length f1) := (blk_cell BKw.out 1).trans rfl; have hcw2 : w4.cell? ⟨gw, 2, none⟩ = some (.int .i64 m2) := (blk_cell BKw.out 2).trans rfl; have hcw3 : w4.cell? ⟨gw, 3, none⟩ = some (.int .i64 m3) := (blk_cell BKw.out 3).trans rfl; have hcr0 : w4.cell? ⟨gr, 0, none⟩ = some (.slice none 0 0) := (blk_cell BKr.out 0).trans rfl; have hcr1 : w4.cell? ⟨gr, 1, none⟩ = some (.slice none 0 0) := (blk_cell BKr.out 1).trans rfl; have hcr2 : w4.cell? ⟨gr, 2, none⟩ = some (.int .i64 0) := (blk_cell BKr.out 2).trans rfl; have hcr3 : w4.cell? ⟨gr, 3, none⟩ = some (.int .i64 0) := (blk_cell BKr.out 3).trans rfl; have hcrf0 := blk_frozen BKr.out 0; have hcrf1 := blk_frozen BKr.out 1; have hcrf2 := blk_frozen BKr.out 2; have hcrf3 := blk_frozen BKr.out 3) | (go_at_call 80; refine (impl_ViewOk.calls k _ _ m0 _ _ m1 m2 m3 _ _ ?s1 ?s2 ?s3 ?s4 HV2.out).mono ?_; (case s1 => exact (Kd.R_reads' HO0.out).2.2); (case s2 => exact (Kd.R_reads' HO0.out).2.1); (case s3 => exact (Kd.R_reads' HO1.out).2.2); (case s4 => exact (Kd.R_reads' HO1.out).2.1); rintro e w5 ⟨rfl, hb⟩; have n0_ := Aside0.mk (Kd.R_below HO0.out hb); have n1_ := Aside0.mk (Kd.R_below HO1.out hb); have n2_ := Aside0.mk (blk_below BKw.out hb); have n3_ := Aside0.mk (blk_below BKr.out hb); have n4_ := Aside0.mk (below_then HBB.out HSZ.out hb); have n5_ : Aside0 (∀ (g : Nat) (cs : Array Value), w.heap[g]? = some (.cells cs 26 (0, 0)) → w5.heap[g]? = some (.cells cs 26 (0, 0))) := ⟨fun g cs h_ => blk_below (H26.out g cs h_) hb⟩; clear H26; have H26 := n5_; clear n5_; clear HO0 HO1 BKw BKr HBB hb hcw0 hcw1 hcw2 hcw3 hcr0 hcr1 hcr2 hcr3 hcrf0 hcrf1 hcrf2 hcrf3; have HO0 := n0_; have HO1 := n1_; have BKw := n2_; have BKr := n3_; have HBB := n4_; clear n0_ n1_ n2_ n3_ n4_; have hcw0 : w5.cell? ⟨gw, 0, none⟩ = some (.slice E0 m0.length f0) := (blk_cell BKw.out 0).trans rfl; have hcw1 : w5.cell? ⟨gw, 1, none⟩ = some (.slice E1 m1.length f1) := (blk_cell BKw.out 1).trans rfl; have hcw2 : w5.cell? ⟨gw, 2, none⟩ = some (.int .i64 m2) := (blk_cell BKw.out 2).trans rfl; have hcw3 : w5.cell? ⟨gw, 3, none⟩ = some (.int .i64 m3) := (blk_cell BKw.out 3).trans rfl; have hcr0 : w5.cell? ⟨gr, 0, none⟩ = some (.slice none 0 0) := (blk_cell BKr.out 0).trans rfl; have hcr1 : w5.cell? ⟨gr, 1, none⟩ = some (.slice none 0 0) := (blk_cell BKr.out 1).trans rfl; have hcr2 : w5.cell? ⟨gr, 2, none⟩ = some (.int .i64 0) := (blk_cell BKr.out 2).trans rfl; have hcr3 : w5.cell? ⟨gr, 3, none⟩ = some (.int .i64 0) := (blk_cell BKr.out 3).trans rfl; have hcrf0 := blk_frozen BKr.out 0; have hcrf1 := blk_frozen BKr.out 1; have hcrf2 := blk_frozen BKr.out 2; have hcrf3 := blk_frozen BKr.out 3))
      refine bodyPost_ret (results_cell_row rfl _ _ gr 26 #[.slice E0 m0.length f0, .slice E1 m1.length f1, .int .i64 m2, .int .i64 m3] (0, 0) _ rfl (by (with_reducible repeat (first | refine blk_drewN ?_ _ | refine blk_drew ?_)); refine blk_put (cs := #[.slice E0 m0.length f0, .slice E1 m1.length f1, .int .i64 m2, .int .i64 0]) ?_ 3 _ rfl; (with_reducible repeat (first | refine blk_drewN ?_ _ | refine blk_drew ?_)); refine blk_put (cs := #[.slice E0 m0.length f0, .slice E1 m1.length f1, .int .i64 0, .int .i64 0]) ?_ 2 _ rfl; (with_reducible repeat (first | refine blk_drewN ?_ _ | refine blk_drew ?_)); refine blk_put (cs := #[.slice E0 m0.length f0, .slice none 0 0, .int .i64 0, .int .i64 0]) ?_ 1 _ rfl; (with_reducible repeat (first | refine blk_drewN ?_ _ | refine blk_drew ?_)); refine blk_put (cs := #[.slice none 0 0, .slice none 0 0, .int .i64 0, .int .i64 0]) ?_ 0 _ rfl; (with_reducible repeat (first | refine blk_drewN ?_ _ | refine blk_drew ?_)); exact BKr.out) Try.underlying26 rfl (by kernel_rfl)) rfl ?_
      exact ⟨_, _, rfl, by (with_reducible repeat (first | apply Kd.R_drewN | apply Kd.R_drew)); exact Kd.R_mono (Kd.R_far (p := ⟨gr, 3, none⟩) (Kd.R_far (p := ⟨gr, 2, none⟩) (Kd.R_far (p := ⟨gr, 1, none⟩) (Kd.R_far (p := ⟨gr, 0, none⟩) (Kd.R_types HO0.out BKr.out (by decide)) (fun _ hk => hk.2) _) (fun _ hk => hk.2) _) (fun _ hk => hk.2) _) (fun _ hk => hk.2) _) (fun _ hk => hk.1), by (with_reducible repeat (first | apply Kd.R_drewN | apply Kd.R_drew)); exact Kd.R_mono (Kd.R_far (p := ⟨gr, 3, none⟩) (Kd.R_far (p := ⟨gr, 2, none⟩) (Kd.R_far (p := ⟨gr, 1, none⟩) (Kd.R_far (p := ⟨gr, 0, none⟩) (Kd.R_types HO1.out BKr.out (by decide)) (fun _ hk => hk.2) _) (fun _ hk => hk.2) _) (fun _ hk => hk.2) _) (fun _ hk => hk.2) _) (fun _ hk => hk.1), by (with_reducible repeat (first | exact HBB.out | apply pw_below_drewN | apply below_drew | (refine Below.setCell ?_ GRB.out _))), fun g cs h_ => by have hne_ : g ≠ gr := (by have := blk_lt h_; have := GBKr.out; omega); (with_reducible repeat (first | refine blk_drewN ?_ _ | refine blk_drew ?_ | refine blk_far ?_ hne_ _)); exact H26.out g cs h_⟩
/-- What Spread's closure does, round by round. -/
def impl_Spread.go (d s ds : List Int) : Nat → Nat → List Int → Bool × List Int
  | 0, _, m1 => (true, m1)
  | n + 1, i, m1 => if rd d (i : Int) = rd ds ((ds.length : Int) - (d.length : Int) + (i : Int)) then impl_Spread.go d s ds n (i + 1) (m1.set ((ds.length : Int) - (d.length : Int) + (i : Int)).toNat (rd s (i : Int))) else if rd d (i : Int) = 1 then impl_Spread.go d s ds n (i + 1) m1 else (false, m1)
def impl_Spread.by (k : Nat) (l0 l1 : List Int) (o b : Int) (ds : List Int) : Option (Bool × List Int × List Int × Int × Int) :=
  (impl_DimsOk.f k ds).bind fun ok => if ok = false ∨ ds.length < l0.length then some (false, l0, l1, o, b)
  else if ¬ (l0.length = l1.length ∧ l0.length ≤ 1000 ∧ ds.length ≤ 1000) then none
  else some ((impl_Spread.go l0 l1 ds l0.length 0 (List.replicate ds.length 0)).1, ds, (impl_Spread.go l0 l1 ds l0.length 0 (List.replicate ds.length 0)).2, o, b)
theorem impl_Spread.bymono : ∀ k a b c d e, LeO (impl_Spread.by k a b c d e) (impl_Spread.by (k + 1) a b c d e) := by
  intro k a b c d e
  unfold impl_Spread.by
  exact LeO.bind (impl_DimsOk.mono _ _) (fun _ => LeO.refl _)
/-- Where a closure over a view and two rows of its own stands, whatever rows. -/
structure VSt (wT w0 W X : World) (B gw : Nat) (v0 v1 : Value) (o b : Int) (m0 m1 : List Int) : Prop where
  hp : X.heap[gw]? = some (.cells #[v0, v1, .int .i64 o, .int .i64 b] 26 (0, 0))
  r0 : Kd.R (Kd.int .i64) 3 X wT.heap.size (fun k_ => some k_ ≠ v1.ownBlock) v0 m0
  r1 : Kd.R (Kd.int .i64) 3 X wT.heap.size (fun k_ => some k_ ≠ v0.ownBlock) v1 m1
  k26 : ∀ (g : Nat) (cs : Array Value), g ≠ gw → W.heap[g]? = some (.cells cs 26 (0, 0)) → X.heap[g]? = some (.cells cs 26 (0, 0))
  size : W.heap.size ≤ X.heap.size
  below : Below B w0 X
  bt : Below wT.heap.size wT X
  bb : B ≤ wT.heap.size ∧ wT.heap.size ≤ W.heap.size ∧ wT.heap.size ≤ gw
section
variable {wT w0 W X : World} {B gw : Nat} {v0 v1 : Value} {o b : Int} {m0 m1 : List Int}
theorem VSt.drewN (S : VSt wT w0 W X B gw v0 v1 o b m0 m1) (n : Nat) : VSt wT w0 W (X.drewN n) B gw v0 v1 o b m0 m1 :=
  ⟨blk_drewN S.hp n, Kd.R_drewN S.r0 n, Kd.R_drewN S.r1 n, fun g cs hg h => blk_drewN (S.k26 g cs hg h) n, S.size, pw_below_drewN S.below n, pw_below_drewN S.bt n, S.bb⟩
theorem VSt.put1 {g1 n1 c1 : Nat} (S : VSt wT w0 W X B gw v0 (.slice (some ⟨g1, 0, none⟩) n1 c1) o b m0 m1) (i : Int) (v : Int) :
    VSt wT w0 W (X.setCell ⟨g1, i.toNat, none⟩ (.int .i64 v)) B gw v0 (.slice (some ⟨g1, 0, none⟩) n1 c1) o b m0 (m1.set i.toNat v) := by
  obtain ⟨cs1, hc1⟩ := Kd.R_typed S.r1 g1 rfl
  have n1 : gw ≠ g1 := blk_ne S.hp hc1 (by decide)
  have hb1 := Kd.R_base S.r1 g1 rfl
  refine ⟨blk_far S.hp n1 _, Kd.R_far (p := ⟨g1, i.toNat, none⟩) S.r0 (fun k hk e => hk (by rw [e]; rfl)) _, Kd.R_putn S.r1 i v, ?_, ?_, S.below.setCell (p := ⟨g1, i.toNat, none⟩) (Nat.le_trans S.bb.1 hb1) _, S.bt.setCell (p := ⟨g1, i.toNat, none⟩) hb1 _, S.bb⟩
  · intro g cs hg h
    have h1 := S.k26 g cs hg h
    exact blk_far h1 (blk_ne h1 hc1 (by decide)) _
  · have := S.size
    simp
    omega
theorem VSt.by_ (S : VSt wT w0 W X B gw v0 v1 o b m0 m1) (rb : Bool) : ViewBy w0 W wT.heap.size B gw rb m0 m1 o b (.returned (.bool rb)) X :=
  ⟨_, _, rfl, S.hp, S.r0, S.r1, S.k26, S.size, S.below⟩
/-- A new row for the lengths. -/
theorem VSt.new0 (S : VSt wT w0 W X B gw v0 v1 o b m0 m1) {w1 : World} {u0 : Value} {n0 : List Int} (hb : Below X.heap.size X w1) (h : Kd.R (Kd.int .i64) 3 w1 X.heap.size (fun _ => True) u0 n0) :
    w1.heap[gw]? = some (.cells #[v0, v1, .int .i64 o, .int .i64 b] 26 (0, 0)) ∧ VSt wT w0 W (w1.setCell ⟨gw, 0, none⟩ u0) B gw u0 v1 o b n0 m1 := by
  have hp' := blk_below S.hp hb
  have hX : wT.heap.size ≤ X.heap.size := Nat.le_trans S.bb.2.1 S.size
  have ho : ∀ k, v1.ownBlock = some k → k < X.heap.size := fun k hk => Kd.R_lt S.r1 k hk
  have h' : Kd.R (Kd.int .i64) 3 w1 X.heap.size (fun k_ => True ∧ some k_ ≠ v1.ownBlock) u0 n0 := Kd.R_new' h ho
  have r1' := Kd.R_mono (Kd.R_bound S.r1) (ok' := fun k => k < X.heap.size) (fun k hk => hk.2.2.1)
  have r1n : Kd.R (Kd.int .i64) 3 w1 wT.heap.size (fun k_ => some k_ ≠ u0.ownBlock) v1 m1 :=
    Kd.R_mono (Kd.R_below r1' hb) (fun k hk e => by have := Kd.R_base h k e.symm; omega)
  have hbX : wT.heap.size ≤ gw := S.bb.2.2
  refine ⟨hp', ⟨blk_put hp' 0 _ rfl, Kd.R_set (Kd.R_lower (Kd.R_mono h' (fun _ hk => hk.2)) hX) hp' (by decide) 0 _, Kd.R_set r1n hp' (by decide) 0 _, ?_, ?_, ?_, ?_, S.bb⟩⟩
  · intro g cs hg hc
    exact blk_far (p := ⟨gw, 0, none⟩) (blk_below (S.k26 g cs hg hc) hb) hg _
  · have := S.size
    have := below_size hb
    simp
    omega
  · exact (S.below.trans (hb.mono (Nat.le_trans S.bb.1 hX))).setCell (p := ⟨gw, 0, none⟩) (Nat.le_trans S.bb.1 hbX) _
  · exact (S.bt.trans (hb.mono hX)).setCell (p := ⟨gw, 0, none⟩) hbX _
/-- A new row for the strides. -/
theorem VSt.new1 (S : VSt wT w0 W X B gw v0 v1 o b m0 m1) {w1 : World} {u1 : Value} {n1 : List Int} (hb : Below X.heap.size X w1) (h : Kd.R (Kd.int .i64) 3 w1 X.heap.size (fun _ => True) u1 n1) :
    w1.heap[gw]? = some (.cells #[v0, v1, .int .i64 o, .int .i64 b] 26 (0, 0)) ∧ VSt wT w0 W (w1.setCell ⟨gw, 1, none⟩ u1) B gw v0 u1 o b m0 n1 := by
  have hp' := blk_below S.hp hb
  have hX : wT.heap.size ≤ X.heap.size := Nat.le_trans S.bb.2.1 S.size
  have ho : ∀ k, v0.ownBlock = some k → k < X.heap.size := fun k hk => Kd.R_lt S.r0 k hk
  have h' : Kd.R (Kd.int .i64) 3 w1 X.heap.size (fun k_ => True ∧ some k_ ≠ v0.ownBlock) u1 n1 := Kd.R_new' h ho
  have r1' := Kd.R_mono (Kd.R_bound S.r0) (ok' := fun k => k < X.heap.size) (fun k hk => hk.2.2.1)
  have r1n : Kd.R (Kd.int .i64) 3 w1 wT.heap.size (fun k_ => some k_ ≠ u1.ownBlock) v0 m0 :=
    Kd.R_mono (Kd.R_below r1' hb) (fun k hk e => by have := Kd.R_base h k e.symm; omega)
  have hbX : wT.heap.size ≤ gw := S.bb.2.2
  refine ⟨hp', ⟨blk_put hp' 1 _ rfl, Kd.R_set r1n hp' (by decide) 1 _, Kd.R_set (Kd.R_lower (Kd.R_mono h' (fun _ hk => hk.2)) hX) hp' (by decide) 1 _, ?_, ?_, ?_, ?_, S.bb⟩⟩
  · intro g cs hg hc
    exact blk_far (p := ⟨gw, 1, none⟩) (blk_below (S.k26 g cs hg hc) hb) hg _
  · have := S.size
    have := below_size hb
    simp
    omega
  · exact (S.below.trans (hb.mono (Nat.le_trans S.bb.1 hX))).setCell (p := ⟨gw, 1, none⟩) (Nat.le_trans S.bb.1 hbX) _
  · exact (S.bt.trans (hb.mono hX)).setCell (p := ⟨gw, 1, none⟩) hbX _
end
set_option maxHeartbeats 4000000 in
set_option maxRecDepth 100000 in
theorem spread_yes (k : Nat) (wT w0 W : World) (B gw q1 q2 : Nat) (v0 v1 : Value) (ds : List Int) (AA : Option Addr) (cc : Nat) (A0 : Option Addr) (c0 : Nat) (A1 : Option Addr) (c1 : Nat) (l0 l1 : List Int) (o b : Int) (rb : Bool) (M1 : List Int)
    (kk1 : wT.heap[q1]? = some (.cells #[.slice AA ds.length cc] 22 (0, 0))) (kk2 : wT.heap[q2]? = some (.cells #[.slice A0 l0.length c0, .slice A1 l1.length c1, .int .i64 o, .int .i64 b] 26 (0, 0)))
    (hr0 : Kd.C (Kd.int .i64) wT A0 l0.length l0) (hr1 : Kd.C (Kd.int .i64) wT A1 l1.length l1) (hra : Kd.C (Kd.int .i64) wT AA ds.length ds) (hca : ds.length ≤ cc)
    (S : VSt wT w0 W W B gw v0 v1 o b l0 l1) (hd : impl_DimsOk.f k ds = some true) (hax : l0.length ≤ ds.length) (hl : l0.length = l1.length) (hl2 : ds.length ≤ 1000)
    (hgo : impl_Spread.go l0 l1 ds l0.length 0 (List.replicate ds.length 0) = (rb, M1)) :
    Calls Try.prog 51 #[.pointer (some ⟨gw, 0, none⟩), .pointer (some ⟨q1, 0, none⟩), .pointer (some ⟨q2, 0, none⟩)] W fun e X => e = .returned (.bool rb) ∧ ∃ u0 u1, VSt wT w0 W X B gw u0 u1 o b ds M1 := by
  have k1 : W.cell? ⟨q1, 0, none⟩ = some (.slice AA ds.length cc) := (blk_cell (blk_below kk1 S.bt) 0).trans rfl
  have k2 : W.cell? ⟨q2, 0, none⟩ = some (.slice A0 l0.length c0) := (blk_cell (blk_below kk2 S.bt) 0).trans rfl
  have hlt : decide ((ds.length : Int) < (l0.length : Int)) = false := decide_eq_false (by omega)
  have hlt2 : decide (ds.length < l0.length) = false := decide_eq_false (by omega)
  have hlt3 : ¬ ds.length < l0.length := by omega
  have HCL : Aside0 (slices_Clone_int_int.f ds = some ds) := ⟨by unfold slices_Clone_int_int.f; rw [if_pos (by omega)]⟩
  have KK1 := Aside0.mk kk1
  have KK2 := Aside0.mk kk2
  have HR0 := Aside0.mk hr0
  have HR1 := Aside0.mk hr1
  have HRA := Aside0.mk hra
  have HCA := Aside0.mk hca
  have HRAW := Aside0.mk (Kd.C_below hra S.bt)
  have SS := Aside0.mk S
  have HD := Aside0.mk hd
  have HL := Aside0.mk (And.intro hax (And.intro hl hl2))
  have HG := Aside0.mk hgo
  clear kk1 kk2 hr0 hr1 hra hca S hax hl hl2 hgo hd
  go_enter Try.func51, Try.ntmps51
  go_wp2_with (first | (go_at_call 52; refine (impl_DimsOk.calls k _ _ ds true _ HRAW.out HCA.out HD.out).mono ?_; rintro e w' ⟨rfl, ⟨nd, rfl⟩⟩) | (go_at_call 53; go_loud (refine (slices_Clone_int_int.calls _ _ ds ds _ (Kd.C_drewN HRAW.out _) HCA.out HCL.out).mono ?_; rintro e w1 ⟨v0n, rfl, ho0, hb0⟩; obtain ⟨E0, f0, rfl⟩ := Kd.R_slice ho0; have Z1 := Aside0.mk ((SS.out.drewN _).new0 hb0 ho0); have y0 := (blk_cell Z1.out.1 0).trans (show _ = some v0 from rfl); have y1 := blk_frozen Z1.out.1 0; clear ho0 hb0 k1 k2)) | ((with_reducible refine gate_store (t := 22) (p := 22) rfl ?_); refine store_event (t := 22) (p := 22) (v := ?vo_w3) (w1 := (World.setCell w1 ⟨gw, 0, none⟩ (.slice E0 ds.length f0))) ?hg ?ho ?hn ?hr ?_; (case ho => rfl); (case hg => rfl); (case hn => rfl); (case hr => first | (go_simp; done) | (go_simp; rfl)); intro w3 hw; have S3 : Aside0 (VSt wT w0 W w3 B gw (.slice E0 ds.length f0) v1 o b ds l1) := ⟨by rw [hw]; exact Z1.out.2⟩; clear Z1 y0 y1 hw; have ck1 : w3.cell? ⟨q1, 0, none⟩ = some (.slice AA ds.length cc) := (blk_cell (blk_below KK1.out S3.out.bt) 0).trans rfl) | ((with_reducible refine gate_dst (N := 26) rfl ?_); refine Kd.R_make (Kd.int .i64) _ 3 rfl (N := 26) rfl 22 _ _ rfl (ds.length : Int) rfl rfl Try.underlying22 (.int .i64 0) 8 info3 rfl (by decide) (by omega) 0 (ok := fun _ => True) (okp := fun _ => False) rfl (fun _ hk => hk.elim) trivial (Int.natCast_nonneg _) (by have := HL.out; rw [Int.toNat_natCast]; omega) (Below.refl _ _) (Nat.le_refl _) ?_; intro v1n w5 ho5 hb5 hg_ hnew_; clear hg_ hnew_; rw [Int.toNat_natCast] at ho5; obtain ⟨E1, f1, rfl⟩ := Kd.R_slice ho5; have Z5 := Aside0.mk (S3.out.new1 hb5 ho5); have y0 := (blk_cell Z5.out.1 1).trans (show _ = some v1 from rfl); have y1 := blk_frozen Z5.out.1 1; clear ho5 hb5 ck1) | ((with_reducible refine gate_store (t := 22) (p := 28) rfl ?_); refine store_event (t := 22) (p := 28) (v := ?vo_w6) (w1 := (World.setCell w5 ⟨gw, 1, none⟩ (.slice E1 (List.replicate ds.length (0 : Int)).length f1))) ?hg ?ho ?hn ?hr ?_; (case ho => rfl); (case hg => rfl); (case hn => rfl); (case hr => first | (go_simp; done) | (go_simp; rfl)); intro w6 hw; have S6 : Aside0 (VSt wT w0 W w6 B gw (.slice E0 ds.length f0) (.slice E1 (List.replicate ds.length (0 : Int)).length f1) o b ds (List.replicate ds.length 0)) := ⟨by rw [hw]; exact Z5.out.2⟩; clear Z5 y0 y1 hw; have ck2 : w6.cell? ⟨q2, 0, none⟩ = some (.slice A0 l0.length c0) := (blk_cell (blk_below KK2.out S6.out.bt) 0).trans rfl))
  clear hlt hlt2 hlt3
  have S7 : Aside0 (VSt wT w0 W w6 B gw (.slice E0 ds.length f0) (.slice E1 ds.length f1) o b ds (List.replicate ds.length 0)) := ⟨by have := S6.out; rwa [List.length_replicate] at this⟩
  clear S6 ck2 S3 SS HRAW
  go_loopg [32] l0.length (fun gk v wr => ∃ (i : Int) (m1 : List Int), v = .int .i64 i ∧ Aside0 (0 ≤ i ∧ i.toNat + gk = l0.length) ∧ Aside0 (impl_Spread.go l0 l1 ds gk i.toNat m1 = (rb, M1)) ∧ Aside0 (VSt wT w0 W wr B gw (.slice E0 ds.length f0) (.slice E1 ds.length f1) o b ds m1 ∧ m1.length = ds.length))
  case atStart => exact ⟨0, List.replicate ds.length 0, rfl, ⟨by omega, by simp⟩, HG, ⟨S7.out, by simp⟩⟩
  case round =>
    clear HG S7
    obtain ⟨i, m1, rfl, HI, HA, HS⟩ := hrel
    cases gk with
    | zero =>
      have hi : decide (i < (l0.length : Int)) = false := decide_eq_false (by have := HI.out; omega)
      have ha := HA.out
      simp only [impl_Spread.go, Prod.mk.injEq] at ha
      obtain ⟨rfl, rfl⟩ := ha
      go_wp2
      go_ret
      exact ⟨rfl, _, _, HS.out.1⟩
    | succ n =>
      have i0 : 0 ≤ i := HI.out.1
      have i1 : i < (l0.length : Int) := by have := HI.out; omega
      have hi : decide (i < (l0.length : Int)) = true := decide_eq_true i1
      have hwi : wrap64 (i + 1) = i + 1 := by have := HL.out; unfold wrap64; omega
      obtain ⟨kx, hkx⟩ : ∃ kx, kx = (ds.length : Int) - (l0.length : Int) + i := ⟨_, rfl⟩
      have j0 : 0 ≤ kx := by have := HL.out; omega
      have j1 : kx < (ds.length : Int) := by have := HL.out; omega
      have hw1 : wrap64 ((ds.length : Int) - (l0.length : Int)) = (ds.length : Int) - (l0.length : Int) := by have := HL.out; unfold wrap64; omega
      have hw2 : wrap64 ((ds.length : Int) - (l0.length : Int) + i) = kx := by rw [hkx]; have := HL.out; unfold wrap64; omega
      have k1 : wr.cell? ⟨q1, 0, none⟩ = some (.slice AA ds.length cc) := (blk_cell (blk_below KK1.out HS.out.1.bt) 0).trans rfl
      have k2 : wr.cell? ⟨q2, 0, none⟩ = some (.slice A0 l0.length c0) := (blk_cell (blk_below KK2.out HS.out.1.bt) 0).trans rfl
      have k3 : wr.cell? ⟨q2, 1, none⟩ = some (.slice A1 l1.length c1) := (blk_cell (blk_below KK2.out HS.out.1.bt) 1).trans rfl
      obtain ⟨ada, ea, hxa⟩ := Kd.at_int HRA.out kx j0 j1
      cases ea
      have hxa' := (HS.out.1.bt.cell (World.block_lt_of_cell? wT _ hxa)).trans hxa
      obtain ⟨ad0, e0, y0⟩ := Kd.at_int HR0.out i i0 i1
      cases e0
      have y0' := (HS.out.1.bt.cell (World.block_lt_of_cell? wT _ y0)).trans y0
      have ha := HA.out
      simp only [impl_Spread.go] at ha
      have ei : ((i.toNat : Nat) : Int) = i := Int.toNat_of_nonneg i0
      rw [ei, ← hkx] at ha
      have e1 : (i + 1).toNat = i.toNat + 1 := by omega
      have HKX := Aside0.mk hkx
      clear HA ei hxa y0 hkx
      by_cases hy : rd l0 i = rd ds kx
      · rw [if_pos hy] at ha
        have HA := Aside0.mk ha
        clear ha
        have hyb : (rd l0 i == rd ds kx) = true := beq_iff_eq.mpr hy
        obtain ⟨ad1, e1', y1⟩ := Kd.at_int HR1.out i i0 (by have := HL.out; omega)
        cases e1'
        have y1' := (HS.out.1.bt.cell (World.block_lt_of_cell? wT _ y1)).trans y1
        obtain ⟨g1, cap1, eg, bg, sg, csg, hg1⟩ := Kd.R_form HS.out.1.r1 (by have := HS.out.2; omega)
        injection eg with eg1 eg2 eg3
        subst eg1
        have c1' : wr.cell? ⟨gw, 1, none⟩ = some (.slice (some ⟨g1, 0, none⟩) ds.length f1) := (blk_cell HS.out.1.hp 1).trans rfl
        obtain ⟨x1, f1'⟩ := Kd.R_celln 0 HS.out.1.r1 kx j0 j1
        have b3 : i < (l1.length : Int) := by have := HL.out; omega
        clear hy y1 bg sg hg1 eg2 eg3
        have E1' := Aside0.mk e1
        clear e1
        go_wp2
        go_quiet (fail)
        go_wp2
        go_region
        go_wp2
        go_roundg n
        case measure => omega
        case rel =>
          refine ⟨i + 1, m1.set kx.toNat (rd l1 i), (by first | rfl | (simp; done) | (simp [*]; done)), ⟨by omega, by have := HI.out; omega⟩, ⟨by rw [E1'.out]; exact HA.out⟩, ⟨?_, by rw [List.length_set]; exact HS.out.2⟩⟩
          exact (HS.out.1.drewN _).put1 kx _
      · rw [if_neg hy] at ha
        have hyb : (rd l0 i == rd ds kx) = false := beq_eq_false_iff_ne.mpr hy
        have E1' := Aside0.mk e1
        clear e1
        by_cases hz : rd l0 i = 1
        · rw [if_pos hz] at ha
          have HA := Aside0.mk ha
          clear ha
          have hzb : (rd l0 i == 1) = true := beq_iff_eq.mpr hz
          clear hy hz
          go_wp2
          go_quiet (fail)
          go_wp2
          go_roundg n
          case measure => omega
          case rel =>
            exact ⟨i + 1, m1, (by first | rfl | (simp; done) | (simp [*]; done)), ⟨by omega, by have := HI.out; omega⟩, ⟨by rw [E1'.out]; exact HA.out⟩, ⟨HS.out.1.drewN _, HS.out.2⟩⟩
        · rw [if_neg hz] at ha
          have hzb : (rd l0 i == 1) = false := beq_eq_false_iff_ne.mpr hz
          clear hy hz
          simp only [Prod.mk.injEq] at ha
          obtain ⟨rfl, rfl⟩ := ha
          go_wp2
          go_quiet (fail)
          go_wp2
          go_ret
          exact ⟨rfl, _, _, HS.out.1.drewN _⟩
set_option maxHeartbeats 2000000 in
set_option maxRecDepth 100000 in
theorem spread_no (k : Nat) (gw q1 q2 : Nat) (ds : List Int) (ok : Bool) (AA A0 : Option Addr) (cc c0 n0 : Nat) (w : World)
    (k1 : w.cell? ⟨q1, 0, none⟩ = some (.slice AA ds.length cc)) (k2 : w.cell? ⟨q2, 0, none⟩ = some (.slice A0 n0 c0)) (hra : Kd.C (Kd.int .i64) w AA ds.length ds) (hca : ds.length ≤ cc) (hd : impl_DimsOk.f k ds = some ok) (h : ok = false ∨ ds.length < n0) :
    Calls Try.prog 51 #[.pointer (some ⟨gw, 0, none⟩), .pointer (some ⟨q1, 0, none⟩), .pointer (some ⟨q2, 0, none⟩)] w fun e w' => e = .returned (.bool false) ∧ ∃ m, w' = w.drewN m := by
  have HRA := Aside0.mk hra
  have HCA := Aside0.mk hca
  have HD := Aside0.mk hd
  clear hra hca hd
  cases ok with
  | false =>
    clear h
    go_enter Try.func51, Try.ntmps51
    go_wp2_with (first | (go_at_call 52; refine (impl_DimsOk.calls k _ _ ds false _ HRA.out HCA.out HD.out).mono ?_; rintro e w' ⟨rfl, ⟨nd, rfl⟩⟩))
    go_ret
    exact ⟨rfl, _, rfl⟩
  | true =>
    have hlt3 : ds.length < n0 := by rcases h with h | h; cases h; exact h
    have hlt : decide ((ds.length : Int) < (n0 : Int)) = true := decide_eq_true (by omega)
    have hlt2 : decide (ds.length < n0) = true := decide_eq_true hlt3
    clear h
    go_enter Try.func51, Try.ntmps51
    go_wp2_with (first | (go_at_call 52; refine (impl_DimsOk.calls k _ _ ds true _ HRA.out HCA.out HD.out).mono ?_; rintro e w' ⟨rfl, ⟨nd, rfl⟩⟩))
    go_ret
    exact ⟨rfl, _, rfl⟩
set_option maxHeartbeats 1000000 in
theorem impl_Spread.closure (k : Nat) (wT W : World) (B q1 q2 : Nat) (ax : List Int) (AA : Option Addr) (cc : Nat) (A0_0 : Option Addr) (c0_0 : Nat) (A0_1 : Option Addr) (c0_1 : Nat) (gw : Nat) (A0 A1 : Option Addr) (d0 d1 : Nat) (l0 l1 : List Int) (o b : Int) (rb : Bool) (m0 m1 : List Int) (m2 m3 : Int)
    (kk1 : wT.heap[q1]? = some (.cells #[.slice AA ax.length cc] 22 (0, 0))) (kk2 : wT.heap[q2]? = some (.cells #[.slice A0_0 l0.length c0_0, .slice A0_1 l1.length c0_1, .int .i64 o, .int .i64 b] 26 (0, 0)))
    (hv0 : Kd.C (Kd.int .i64) wT A0_0 l0.length l0) (hvc0 : l0.length ≤ c0_0) (hv1 : Kd.C (Kd.int .i64) wT A0_1 l1.length l1) (hvc1 : l1.length ≤ c0_1) (hra : Kd.C (Kd.int .i64) wT AA ax.length ax) (hca : ax.length ≤ cc)
    (hBT : B ≤ wT.heap.size) (w0 : World) (hB0 : Below B w0 wT) (hbW : Below wT.heap.size wT W) (hgw : wT.heap.size ≤ gw)
    (hp : W.heap[gw]? = some (.cells #[.slice A0 l0.length d0, .slice A1 l1.length d1, .int .i64 o, .int .i64 b] 26 (0, 0)))
    (h0 : Kd.R (Kd.int .i64) 3 W wT.heap.size (fun k_ => some k_ ≠ (.slice A1 l1.length d1 : Value).ownBlock) (.slice A0 l0.length d0) l0) (h1 : Kd.R (Kd.int .i64) 3 W wT.heap.size (fun k_ => some k_ ≠ (.slice A0 l0.length d0 : Value).ownBlock) (.slice A1 l1.length d1) l1)
    (hf : impl_Spread.by k l0 l1 o b ax = some (rb, m0, m1, m2, m3)) :
    Calls Try.prog 51 #[.pointer (some ⟨gw, 0, none⟩), .pointer (some ⟨q1, 0, none⟩), .pointer (some ⟨q2, 0, none⟩)] W (ViewBy w0 W wT.heap.size B gw rb m0 m1 m2 m3) := by
  have f1 := blk_below kk1 hbW
  have f2 := blk_below kk2 hbW
  have k1 : W.cell? ⟨q1, 0, none⟩ = some (.slice AA ax.length cc) := (blk_cell f1 0).trans rfl
  have k2 : W.cell? ⟨q2, 0, none⟩ = some (.slice A0_0 l0.length c0_0) := (blk_cell f2 0).trans rfl
  have hBW : Below B w0 W := below_then hB0 hBT hbW
  have hsz := below_size hbW
  unfold impl_Spread.by at hf
  obtain ⟨ok, hd, hf⟩ := Option.bind_eq_some_iff.mp hf
  by_cases c1 : ok = false ∨ ax.length < l0.length
  · rw [if_pos c1] at hf
    simp only [Option.some.injEq, Prod.mk.injEq] at hf
    obtain ⟨rfl, rfl, rfl, rfl, rfl⟩ := hf
    refine (spread_no k gw q1 q2 ax ok AA A0_0 cc c0_0 l0.length W k1 k2 (Kd.C_below hra hbW) hca hd c1).mono ?_
    rintro e w' ⟨rfl, m, rfl⟩
    exact ViewBy.same m false hp h0 h1 hBW
  · rw [if_neg c1] at hf
    by_cases c3 : ¬ (l0.length = l1.length ∧ l0.length ≤ 1000 ∧ ax.length ≤ 1000)
    · rw [if_pos c3] at hf
      cases hf
    · rw [if_neg c3] at hf
      have c4 : l0.length = l1.length ∧ l0.length ≤ 1000 ∧ ax.length ≤ 1000 := by
        by_cases z : l0.length = l1.length ∧ l0.length ≤ 1000 ∧ ax.length ≤ 1000
        · exact z
        · exact absurd z c3
      obtain rfl : ok = true := by
        cases ok
        · exact absurd (Or.inl rfl) c1
        · rfl
      have c5 : l0.length ≤ ax.length := by
        by_cases z : ax.length < l0.length
        · exact absurd (Or.inr z) c1
        · omega
      simp only [Option.some.injEq, Prod.mk.injEq] at hf
      obtain ⟨rfl, rfl, rfl, rfl, rfl⟩ := hf
      have S : VSt wT w0 W W B gw (.slice A0 l0.length d0) (.slice A1 l1.length d1) o b l0 l1 := ⟨hp, h0, h1, fun g cs _ h => h, Nat.le_refl _, hBW, hbW, hBT, hsz, hgw⟩
      refine (spread_yes k wT w0 W B gw q1 q2 _ _ ax AA cc A0_0 c0_0 A0_1 c0_1 l0 l1 o b _ _ kk1 kk2 hv0 hv1 hra hca S hd c5 c4.1 c4.2.2 rfl).mono ?_
      rintro e w' ⟨rfl, u0, u1, hS⟩
      exact hS.by_ _
def impl_Spread.f (k : Nat) (l0_0 : List Int) (l0_1 : List Int) (a0_2 : Int) (a0_3 : Int) (ax : List Int) : Option (List Int × List Int × Int × Int) :=
  (impl_ViewOk.f k l0_0 l0_1 a0_2 a0_3).bind fun t => if t = true then (slices_Clone_int_int.f l0_0).bind fun x0 => (slices_Clone_int_int.f l0_1).bind fun x1 => (impl_Spread.by k x0 x1 a0_2 a0_3 ax).bind fun q =>
    if q.1 = true then (impl_ViewOk.f k q.2.1 q.2.2.1 q.2.2.2.1 q.2.2.2.2).bind fun t2 => if t2 = true then some q.2 else some ([], [], 0, 0) else some ([], [], 0, 0) else some ([], [], 0, 0)
theorem impl_Spread.mono : ∀ a0 a1 a2 a3 b0 k, LeO (impl_Spread.f k a0 a1 a2 a3 b0) (impl_Spread.f (k + 1) a0 a1 a2 a3 b0) := by
  intro a0 a1 a2 a3 b0 k
  unfold impl_Spread.f
  repeat' first
      | (with_reducible exact impl_ViewOk.mono _ _ _ _ _)
      | (with_reducible exact impl_Spread.bymono _ _ _ _ _ _)
      | (with_reducible exact LeO.refl _)
      | (with_reducible exact LeO.none _)
      | (with_reducible refine LeO.ite ?_ ?_)
      | (with_reducible refine LeO.bind ?_ (fun _ => ?_))

set_option maxHeartbeats 8000000 in
set_option maxRecDepth 100000 in
theorem impl_Spread.own (k : Nat) (A0_0 : Option Addr) (c0_0 : Nat) (l0_0 : List Int) (A0_1 : Option Addr) (c0_1 : Nat) (l0_1 : List Int) (a0_2 : Int) (a0_3 : Int) (AA : Option Addr) (cc : Nat) (ax : List Int) (r1 : List Int) (r2 : List Int) (r3 : Int) (r4 : Int) (w : World) (hr0_0 : Kd.C (Kd.int .i64) w A0_0 l0_0.length l0_0) (hc0_0 : l0_0.length ≤ c0_0) (hr0_1 : Kd.C (Kd.int .i64) w A0_1 l0_1.length l0_1) (hc0_1 : l0_1.length ≤ c0_1) (hra : Kd.C (Kd.int .i64) w AA ax.length ax) (hca : ax.length ≤ cc) (h : impl_Spread.f k l0_0 l0_1 a0_2 a0_3 ax = some (r1, r2, r3, r4)) :
    Calls Try.prog 13 #[.agg #[.slice A0_0 l0_0.length c0_0, .slice A0_1 l0_1.length c0_1, .int .i64 a0_2, .int .i64 a0_3], .slice AA ax.length cc] w fun e w' => ∃ v0_ v1_ : Value, e = .returned (.agg #[v0_, v1_, .int .i64 r3, .int .i64 r4]) ∧ Kd.R (Kd.int .i64) 3 w' w.heap.size (fun k_ => some k_ ≠ (v1_ : Value).ownBlock) v0_ r1 ∧ Kd.R (Kd.int .i64) 3 w' w.heap.size (fun k_ => some k_ ≠ (v0_ : Value).ownBlock) v1_ r2 ∧ Below w.heap.size w w' := by
  have hu26 := Try.underlying26
  have HR0_0 := Aside0.mk hr0_0
  have HC0_0 := Aside0.mk hc0_0
  have HR0_1 := Aside0.mk hr0_1
  have HC0_1 := Aside0.mk hc0_1
  have HRA := Aside0.mk hra
  have HCA := Aside0.mk hca
  clear hra hca
  clear hr0_0 hc0_0 hr0_1 hc0_1
  have HB := Aside0.mk (Below.refl w.heap.size w)
  unfold impl_Spread.f at h
  obtain ⟨t, hv, h⟩ := Option.bind_eq_some_iff.mp h
  have HV := Aside0.mk hv
  clear hv
  cases t with
  | false =>
    rw [if_neg (by simp)] at h
    simp only [Option.some.injEq, Prod.mk.injEq] at h
    obtain ⟨rfl, rfl, rfl, rfl⟩ := h
    have hmf : ∀ (fn : Fn) (first cap : Array Value) (w : World), (Instr.makeFunc fn first cap).run Try.prog w = .ok (.func fn first cap) w := fun _ _ _ _ => rfl
    go_enter Try.func13, Try.ntmps13
    go_wp2_with (first | ((with_reducible refine gate_dst (N := 2) rfl ?_); refine box_event ?hg (N := 2) ?hd (cs := #[.slice A0_0 l0_0.length c0_0, .slice A0_1 l0_1.length c0_1, .int .i64 a0_2, .int .i64 a0_3]) (t := 26) ?hr ?_; (case hd => rfl); (case hg => rfl); (case hr => first | (go_simp; done) | (go_simp; rfl)); intro gv hg_gv w_gv hbox hb; have ng_ := Aside0.mk (by rw [hg_gv]; exact (below_size (by repeat (first | (with_reducible first | exact HB.out | apply below_alloc | apply pw_below_drewN | apply below_drew1) | exact HB.out))) : w.heap.size ≤ gv); have nb_ := Aside0.mk (below_step (by repeat (first | (with_reducible first | exact HB.out | apply below_alloc | apply pw_below_drewN | apply below_drew1) | exact HB.out)) hb); clear HB ; have HB := nb_; clear nb_  hb; have BKv := Aside0.mk hbox; have GBKv := ng_; clear hbox ng_ hg_gv) | ((with_reducible refine gate_dst (N := 3) rfl ?_); refine box_event ?hg (N := 3) ?hd (cs := #[.slice AA ax.length cc]) (t := 22) ?hr ?_; (case hd => rfl); (case hg => rfl); (case hr => first | (go_simp; done) | (go_simp; rfl)); intro gq1 hg_gq1 w_gq1 hbox hb; have ng_ := Aside0.mk (by rw [hg_gq1]; exact (below_size (by repeat (first | (with_reducible first | exact HB.out | apply below_alloc | apply pw_below_drewN | apply below_drew1) | exact HB.out))) : w.heap.size ≤ gq1); have nb_ := Aside0.mk (below_step (by repeat (first | (with_reducible first | exact HB.out | apply below_alloc | apply pw_below_drewN | apply below_drew1) | exact HB.out)) hb); have n0_ := Aside0.mk (blk_below (g := gv) (o := .cells #[.slice A0_0 l0_0.length c0_0, .slice A0_1 l0_1.length c0_1, .int .i64 a0_2, .int .i64 a0_3] 26 (0, 0)) (by (with_reducible repeat (first | refine blk_drewN ?_ _ | refine blk_drew ?_ | refine blk_alloc ?_ _)); exact BKv.out) hb); clear HB BKv; have HB := nb_; have BKv := n0_; clear nb_ n0_ hb; have BKgq1 := Aside0.mk hbox; have GBKgq1 := ng_; clear hbox ng_ hg_gq1) | ((with_reducible refine gate_dst (N := 4) rfl ?_); refine box_event ?hg (N := 4) ?hd (cs := #[.slice none 0 0, .slice none 0 0, .int .i64 0, .int .i64 0]) (t := 26) ?hr ?_; (case hd => rfl); (case hg => rfl); (case hr => first | (go_simp; done) | (go_simp; rfl)); intro gr hg_gr w_gr hbox hb; have ng_ := Aside0.mk (by rw [hg_gr]; exact (below_size (by repeat (first | (with_reducible first | exact HB.out | apply below_alloc | apply pw_below_drewN | apply below_drew1) | exact HB.out))) : w.heap.size ≤ gr); have nb_ := Aside0.mk (below_step (by repeat (first | (with_reducible first | exact HB.out | apply below_alloc | apply pw_below_drewN | apply below_drew1) | exact HB.out)) hb); have n0_ := Aside0.mk (blk_below (g := gv) (o := .cells #[.slice A0_0 l0_0.length c0_0, .slice A0_1 l0_1.length c0_1, .int .i64 a0_2, .int .i64 a0_3] 26 (0, 0)) (by (with_reducible repeat (first | refine blk_drewN ?_ _ | refine blk_drew ?_ | refine blk_alloc ?_ _)); exact BKv.out) hb); have n1_ := Aside0.mk (blk_below (g := gq1) (o := .cells #[.slice AA ax.length cc] 22 (0, 0)) (by (with_reducible repeat (first | refine blk_drewN ?_ _ | refine blk_drew ?_ | refine blk_alloc ?_ _)); exact BKgq1.out) hb); clear HB BKv BKgq1; have HB := nb_; have BKv := n0_; have BKgq1 := n1_; clear nb_ n0_ n1_ hb; have BKr := Aside0.mk hbox; have GBKr := ng_; clear hbox ng_ hg_gr; have hcv0 : w_gr.cell? ⟨gv, 0, none⟩ = some (.slice A0_0 l0_0.length c0_0) := (blk_cell BKv.out 0).trans rfl; have hcv1 : w_gr.cell? ⟨gv, 1, none⟩ = some (.slice A0_1 l0_1.length c0_1) := (blk_cell BKv.out 1).trans rfl; have hcv2 : w_gr.cell? ⟨gv, 2, none⟩ = some (.int .i64 a0_2) := (blk_cell BKv.out 2).trans rfl; have hcv3 : w_gr.cell? ⟨gv, 3, none⟩ = some (.int .i64 a0_3) := (blk_cell BKv.out 3).trans rfl) | (go_at_call 50; refine (impl_turn.no k _ _ _ _ l0_0 _ _ l0_1 a0_2 a0_3 _ ?s1 HC0_0.out ?s3 HC0_1.out HV.out).mono ?_; (case s1 => repeat (first | exact (Kd.C_below HR0_0.out HB.out) | (with_reducible refine Kd.C_alloc ?_ _) | (with_reducible refine Kd.C_drewN ?_ _) | (with_reducible refine Kd.C_drew ?_))); (case s3 => repeat (first | exact (Kd.C_below HR0_1.out HB.out) | (with_reducible refine Kd.C_alloc ?_ _) | (with_reducible refine Kd.C_drewN ?_ _) | (with_reducible refine Kd.C_drew ?_))); rintro e w9 ⟨rfl, hb⟩; have nb_ := Aside0.mk (below_step (by repeat (first | (with_reducible first | exact HB.out | apply below_alloc | apply pw_below_drewN | apply below_drew1) | exact HB.out)) hb); have n0_ := Aside0.mk (blk_below (g := gv) (o := .cells #[.slice A0_0 l0_0.length c0_0, .slice A0_1 l0_1.length c0_1, .int .i64 a0_2, .int .i64 a0_3] 26 (0, 0)) (by (with_reducible repeat (first | refine blk_drewN ?_ _ | refine blk_drew ?_ | refine blk_alloc ?_ _)); exact BKv.out) hb); have n1_ := Aside0.mk (blk_below (g := gq1) (o := .cells #[.slice AA ax.length cc] 22 (0, 0)) (by (with_reducible repeat (first | refine blk_drewN ?_ _ | refine blk_drew ?_ | refine blk_alloc ?_ _)); exact BKgq1.out) hb); have n2_ := Aside0.mk (blk_below (g := gr) (o := .cells #[.slice none 0 0, .slice none 0 0, .int .i64 0, .int .i64 0] 26 (0, 0)) (by (with_reducible repeat (first | refine blk_drewN ?_ _ | refine blk_drew ?_ | refine blk_alloc ?_ _)); exact BKr.out) hb); clear HB BKv BKgq1 BKr; have HB := nb_; have BKv := n0_; have BKgq1 := n1_; have BKr := n2_; clear nb_ n0_ n1_ n2_ hb; have hcr0 : w9.cell? ⟨gr, 0, none⟩ = some (.slice none 0 0) := (blk_cell BKr.out 0).trans rfl; have hcr1 : w9.cell? ⟨gr, 1, none⟩ = some (.slice none 0 0) := (blk_cell BKr.out 1).trans rfl; have hcr2 : w9.cell? ⟨gr, 2, none⟩ = some (.int .i64 0) := (blk_cell BKr.out 2).trans rfl; have hcr3 : w9.cell? ⟨gr, 3, none⟩ = some (.int .i64 0) := (blk_cell BKr.out 3).trans rfl; have hcrf0 := blk_frozen BKr.out 0; have hcrf1 := blk_frozen BKr.out 1; have hcrf2 := blk_frozen BKr.out 2; have hcrf3 := blk_frozen BKr.out 3))
    refine bodyPost_ret (results_cell_row rfl _ _ gr 26 #[.slice none 0 0, .slice none 0 0, .int .i64 0, .int .i64 0] (0, 0) _ rfl (by (with_reducible repeat (first | refine blk_drewN ?_ _ | refine blk_drew ?_)); refine blk_put (cs := #[.slice none 0 0, .slice none 0 0, .int .i64 0, .int .i64 0]) ?_ 3 _ rfl; (with_reducible repeat (first | refine blk_drewN ?_ _ | refine blk_drew ?_)); refine blk_put (cs := #[.slice none 0 0, .slice none 0 0, .int .i64 0, .int .i64 0]) ?_ 2 _ rfl; (with_reducible repeat (first | refine blk_drewN ?_ _ | refine blk_drew ?_)); refine blk_put (cs := #[.slice none 0 0, .slice none 0 0, .int .i64 0, .int .i64 0]) ?_ 1 _ rfl; (with_reducible repeat (first | refine blk_drewN ?_ _ | refine blk_drew ?_)); refine blk_put (cs := #[.slice none 0 0, .slice none 0 0, .int .i64 0, .int .i64 0]) ?_ 0 _ rfl; (with_reducible repeat (first | refine blk_drewN ?_ _ | refine blk_drew ?_)); exact BKr.out) Try.underlying26 rfl (by kernel_rfl)) rfl ?_
    exact ⟨_, _, rfl, Kd.R_nil _ _ _ _ _, Kd.R_nil _ _ _ _ _, by repeat (first | (with_reducible first | exact HB.out | apply below_alloc | apply pw_below_drewN | apply below_drew1 | refine below_set ?_ GBKr.out) | exact HB.out)⟩
  | true =>
    rw [if_pos rfl] at h
    obtain ⟨x0, hl0, h⟩ := Option.bind_eq_some_iff.mp h
    obtain ⟨x1, hl1, h⟩ := Option.bind_eq_some_iff.mp h
    obtain ⟨⟨rb, m0, m1, m2, m3⟩, hf, h⟩ := Option.bind_eq_some_iff.mp h
    obtain rfl : l0_0 = x0 := by
      unfold slices_Clone_int_int.f at hl0
      split at hl0
      · exact Option.some.inj hl0
      · cases hl0
    obtain rfl : l0_1 = x1 := by
      unfold slices_Clone_int_int.f at hl1
      split at hl1
      · exact Option.some.inj hl1
      · cases hl1
    obtain ⟨t2, hv2, hres⟩ : ∃ t2 : Bool, (rb = true → impl_ViewOk.f k m0 m1 m2 m3 = some t2) ∧ (if rb = true then (if t2 = true then (m0, m1, m2, m3) else ([], [], 0, 0)) else ([], [], 0, 0)) = (r1, r2, r3, r4) := by
      cases rb with
      | false =>
        rw [if_neg (by simp)] at h
        exact ⟨false, (fun z => (by cases z)), by simpa using h⟩
      | true =>
        rw [if_pos rfl] at h
        obtain ⟨t2, hv2, h⟩ := Option.bind_eq_some_iff.mp h
        refine ⟨t2, fun _ => hv2, ?_⟩
        cases t2 <;> simpa using h
    have HL0 := Aside0.mk hl0
    have HL1 := Aside0.mk hl1
    have HF := Aside0.mk hf
    have HV2 := Aside0.mk hv2
    have HRES := Aside0.mk hres
    clear hl0 hl1 hf hv2 hres h
    have hmf : ∀ (fn : Fn) (first cap : Array Value) (w : World), (Instr.makeFunc fn first cap).run Try.prog w = .ok (.func fn first cap) w := fun _ _ _ _ => rfl
    go_enter Try.func13, Try.ntmps13
    go_wp2_with (first | ((with_reducible refine gate_dst (N := 2) rfl ?_); refine box_event ?hg (N := 2) ?hd (cs := #[.slice A0_0 l0_0.length c0_0, .slice A0_1 l0_1.length c0_1, .int .i64 a0_2, .int .i64 a0_3]) (t := 26) ?hr ?_; (case hd => rfl); (case hg => rfl); (case hr => first | (go_simp; done) | (go_simp; rfl)); intro gv hg_gv w_gv hbox hb; have ng_ := Aside0.mk (by rw [hg_gv]; exact (below_size (by repeat (first | (with_reducible first | exact HB.out | apply below_alloc | apply pw_below_drewN | apply below_drew1) | exact HB.out))) : w.heap.size ≤ gv); have nb_ := Aside0.mk (below_step (by repeat (first | (with_reducible first | exact HB.out | apply below_alloc | apply pw_below_drewN | apply below_drew1) | exact HB.out)) hb); clear HB ; have HB := nb_; clear nb_  hb; have BKv := Aside0.mk hbox; have GBKv := ng_; clear hbox ng_ hg_gv) | ((with_reducible refine gate_dst (N := 3) rfl ?_); refine box_event ?hg (N := 3) ?hd (cs := #[.slice AA ax.length cc]) (t := 22) ?hr ?_; (case hd => rfl); (case hg => rfl); (case hr => first | (go_simp; done) | (go_simp; rfl)); intro gq1 hg_gq1 w_gq1 hbox hb; have ng_ := Aside0.mk (by rw [hg_gq1]; exact (below_size (by repeat (first | (with_reducible first | exact HB.out | apply below_alloc | apply pw_below_drewN | apply below_drew1) | exact HB.out))) : w.heap.size ≤ gq1); have nb_ := Aside0.mk (below_step (by repeat (first | (with_reducible first | exact HB.out | apply below_alloc | apply pw_below_drewN | apply below_drew1) | exact HB.out)) hb); have n0_ := Aside0.mk (blk_below (g := gv) (o := .cells #[.slice A0_0 l0_0.length c0_0, .slice A0_1 l0_1.length c0_1, .int .i64 a0_2, .int .i64 a0_3] 26 (0, 0)) (by (with_reducible repeat (first | refine blk_drewN ?_ _ | refine blk_drew ?_ | refine blk_alloc ?_ _)); exact BKv.out) hb); clear HB BKv; have HB := nb_; have BKv := n0_; clear nb_ n0_ hb; have BKgq1 := Aside0.mk hbox; have GBKgq1 := ng_; clear hbox ng_ hg_gq1) | ((with_reducible refine gate_dst (N := 4) rfl ?_); refine box_event ?hg (N := 4) ?hd (cs := #[.slice none 0 0, .slice none 0 0, .int .i64 0, .int .i64 0]) (t := 26) ?hr ?_; (case hd => rfl); (case hg => rfl); (case hr => first | (go_simp; done) | (go_simp; rfl)); intro gr hg_gr w_gr hbox hb; have ng_ := Aside0.mk (by rw [hg_gr]; exact (below_size (by repeat (first | (with_reducible first | exact HB.out | apply below_alloc | apply pw_below_drewN | apply below_drew1) | exact HB.out))) : w.heap.size ≤ gr); have nb_ := Aside0.mk (below_step (by repeat (first | (with_reducible first | exact HB.out | apply below_alloc | apply pw_below_drewN | apply below_drew1) | exact HB.out)) hb); have n0_ := Aside0.mk (blk_below (g := gv) (o := .cells #[.slice A0_0 l0_0.length c0_0, .slice A0_1 l0_1.length c0_1, .int .i64 a0_2, .int .i64 a0_3] 26 (0, 0)) (by (with_reducible repeat (first | refine blk_drewN ?_ _ | refine blk_drew ?_ | refine blk_alloc ?_ _)); exact BKv.out) hb); have n1_ := Aside0.mk (blk_below (g := gq1) (o := .cells #[.slice AA ax.length cc] 22 (0, 0)) (by (with_reducible repeat (first | refine blk_drewN ?_ _ | refine blk_drew ?_ | refine blk_alloc ?_ _)); exact BKgq1.out) hb); clear HB BKv BKgq1; have HB := nb_; have BKv := n0_; have BKgq1 := n1_; clear nb_ n0_ n1_ hb; have BKr := Aside0.mk hbox; have GBKr := ng_; clear hbox ng_ hg_gr; have hcv0 : w_gr.cell? ⟨gv, 0, none⟩ = some (.slice A0_0 l0_0.length c0_0) := (blk_cell BKv.out 0).trans rfl; have hcv1 : w_gr.cell? ⟨gv, 1, none⟩ = some (.slice A0_1 l0_1.length c0_1) := (blk_cell BKv.out 1).trans rfl; have hcv2 : w_gr.cell? ⟨gv, 2, none⟩ = some (.int .i64 a0_2) := (blk_cell BKv.out 2).trans rfl; have hcv3 : w_gr.cell? ⟨gv, 3, none⟩ = some (.int .i64 a0_3) := (blk_cell BKv.out 3).trans rfl) | (go_at_call 50; refine (impl_turn.go k w.heap.size gq1 gv _ _ l0_0 _ _ l0_1 a0_2 a0_3 rb t2 m0 m1 m2 m3 r1 r2 r3 r4 _ (below_size HB.out) ?s1 HC0_0.out ?s3 HC0_1.out HV.out HL0.out HL1.out ?sby HV2.out HRES.out).mono ?_; (case s1 => repeat (first | exact (Kd.C_below HR0_0.out HB.out) | (with_reducible refine Kd.C_alloc ?_ _) | (with_reducible refine Kd.C_drewN ?_ _) | (with_reducible refine Kd.C_drew ?_))); (case s3 => repeat (first | exact (Kd.C_below HR0_1.out HB.out) | (with_reducible refine Kd.C_alloc ?_ _) | (with_reducible refine Kd.C_drewN ?_ _) | (with_reducible refine Kd.C_drew ?_))); (case sby => exact (by intro W gw B0 B1 d0 d1 hbW hgw hp h0 h1; exact impl_Spread.closure k _ W w.heap.size gq1 gv ax AA cc A0_0 c0_0 A0_1 c0_1 gw B0 B1 d0 d1 l0_0 l0_1 a0_2 a0_3 rb m0 m1 m2 m3 (by (with_reducible repeat (first | refine blk_drewN ?_ _ | refine blk_drew ?_ | refine blk_alloc ?_ _)); exact BKgq1.out) (by (with_reducible repeat (first | refine blk_drewN ?_ _ | refine blk_drew ?_ | refine blk_alloc ?_ _)); exact BKv.out) (Kd.C_below HR0_0.out (by repeat (first | (with_reducible first | exact HB.out | apply below_alloc | apply pw_below_drewN | apply below_drew1) | exact HB.out))) HC0_0.out (Kd.C_below HR0_1.out (by repeat (first | (with_reducible first | exact HB.out | apply below_alloc | apply pw_below_drewN | apply below_drew1) | exact HB.out))) HC0_1.out (Kd.C_below HRA.out (by repeat (first | (with_reducible first | exact HB.out | apply below_alloc | apply pw_below_drewN | apply below_drew1) | exact HB.out))) HCA.out (below_size HB.out) _ (Below.refl _ _) hbW hgw hp h0 h1 HF.out)); rintro e w9 ⟨v0, v1, rfl, ho0, ho1, hbb, h26⟩; have BKr9 := Aside0.mk (h26 _ _ (by (with_reducible repeat (first | refine blk_drewN ?_ _ | refine blk_drew ?_ | refine blk_alloc ?_ _)); exact BKr.out)); have HB9 := Aside0.mk (HB.out.trans hbb); have HO0 := Aside0.mk (Kd.R_lower ho0 (below_size HB.out)); have HO1 := Aside0.mk (Kd.R_lower ho1 (below_size HB.out)); obtain ⟨E0, f0, rfl⟩ := Kd.R_slice ho0; obtain ⟨E1, f1, rfl⟩ := Kd.R_slice ho1; clear ho0 ho1 hbb h26 HB BKr; have hcr0 : w9.cell? ⟨gr, 0, none⟩ = some (.slice none 0 0) := (blk_cell BKr9.out 0).trans rfl; have hcr1 : w9.cell? ⟨gr, 1, none⟩ = some (.slice none 0 0) := (blk_cell BKr9.out 1).trans rfl; have hcr2 : w9.cell? ⟨gr, 2, none⟩ = some (.int .i64 0) := (blk_cell BKr9.out 2).trans rfl; have hcr3 : w9.cell? ⟨gr, 3, none⟩ = some (.int .i64 0) := (blk_cell BKr9.out 3).trans rfl; have hcrf0 := blk_frozen BKr9.out 0; have hcrf1 := blk_frozen BKr9.out 1; have hcrf2 := blk_frozen BKr9.out 2; have hcrf3 := blk_frozen BKr9.out 3))
    refine bodyPost_ret (results_cell_row rfl _ _ gr 26 #[.slice E0 r1.length f0, .slice E1 r2.length f1, .int .i64 r3, .int .i64 r4] (0, 0) _ rfl (by (with_reducible repeat (first | refine blk_drewN ?_ _ | refine blk_drew ?_)); refine blk_put (cs := #[.slice E0 r1.length f0, .slice E1 r2.length f1, .int .i64 r3, .int .i64 0]) ?_ 3 _ rfl; (with_reducible repeat (first | refine blk_drewN ?_ _ | refine blk_drew ?_)); refine blk_put (cs := #[.slice E0 r1.length f0, .slice E1 r2.length f1, .int .i64 0, .int .i64 0]) ?_ 2 _ rfl; (with_reducible repeat (first | refine blk_drewN ?_ _ | refine blk_drew ?_)); refine blk_put (cs := #[.slice E0 r1.length f0, .slice none 0 0, .int .i64 0, .int .i64 0]) ?_ 1 _ rfl; (with_reducible repeat (first | refine blk_drewN ?_ _ | refine blk_drew ?_)); refine blk_put (cs := #[.slice none 0 0, .slice none 0 0, .int .i64 0, .int .i64 0]) ?_ 0 _ rfl; (with_reducible repeat (first | refine blk_drewN ?_ _ | refine blk_drew ?_)); exact BKr9.out) Try.underlying26 rfl (by kernel_rfl)) rfl ?_
    exact ⟨_, _, rfl, by (with_reducible repeat (first | apply Kd.R_drewN | apply Kd.R_drew)); exact Kd.R_mono (Kd.R_far (p := ⟨gr, 3, none⟩) (Kd.R_far (p := ⟨gr, 2, none⟩) (Kd.R_far (p := ⟨gr, 1, none⟩) (Kd.R_far (p := ⟨gr, 0, none⟩) (Kd.R_types HO0.out BKr9.out (by decide)) (fun _ hk => hk.2) _) (fun _ hk => hk.2) _) (fun _ hk => hk.2) _) (fun _ hk => hk.2) _) (fun _ hk => hk.1), by (with_reducible repeat (first | apply Kd.R_drewN | apply Kd.R_drew)); exact Kd.R_mono (Kd.R_far (p := ⟨gr, 3, none⟩) (Kd.R_far (p := ⟨gr, 2, none⟩) (Kd.R_far (p := ⟨gr, 1, none⟩) (Kd.R_far (p := ⟨gr, 0, none⟩) (Kd.R_types HO1.out BKr9.out (by decide)) (fun _ hk => hk.2) _) (fun _ hk => hk.2) _) (fun _ hk => hk.2) _) (fun _ hk => hk.2) _) (fun _ hk => hk.1), by repeat (first | (with_reducible first | exact HB9.out | apply pw_below_drewN | apply below_drew1 | refine below_set ?_ GBKr.out) | exact HB9.out)⟩

set_option maxHeartbeats 8000000 in
set_option maxRecDepth 100000 in
theorem impl_Spread.calls (k : Nat) (A0_0 : Option Addr) (c0_0 : Nat) (l0_0 : List Int) (A0_1 : Option Addr) (c0_1 : Nat) (l0_1 : List Int) (a0_2 : Int) (a0_3 : Int) (A1 : Option Addr) (c1 : Nat) (l1 : List Int) (r1 : List Int) (r2 : List Int) (r3 : Int) (r4 : Int) (w : World) (hr0_0 : Kd.C (Kd.int .i64) w A0_0 l0_0.length l0_0) (hc0_0 : l0_0.length ≤ c0_0) (hr0_1 : Kd.C (Kd.int .i64) w A0_1 l0_1.length l0_1) (hc0_1 : l0_1.length ≤ c0_1) (hr1 : Kd.C (Kd.int .i64) w A1 l1.length l1) (hc1 : l1.length ≤ c1) (h : impl_Spread.f k l0_0 l0_1 a0_2 a0_3 l1 = some (r1, r2, r3, r4)) :
    Calls Try.prog 13 #[.agg #[.slice A0_0 l0_0.length c0_0, .slice A0_1 l0_1.length c0_1, .int .i64 a0_2, .int .i64 a0_3], .slice A1 l1.length c1] w fun e w' => ∃ v0_ v1_ : Value, e = .returned (.agg #[v0_, v1_, .int .i64 r3, .int .i64 r4]) ∧ Kd.R (Kd.int .i64) 3 w' w.heap.size (fun k_ => some k_ ≠ (v1_ : Value).ownBlock) v0_ r1 ∧ Kd.R (Kd.int .i64) 3 w' w.heap.size (fun k_ => some k_ ≠ (v0_ : Value).ownBlock) v1_ r2 ∧ Below w.heap.size w w' := by
  exact impl_Spread.own k _ _ l0_0 _ _ l0_1 a0_2 a0_3 _ _ l1 r1 r2 r3 r4 w hr0_0 hc0_0 hr0_1 hc0_1 hr1 hc1 h

/-! ### laws_eqIntS: function 15 -/
def laws_eqIntS.l0 : Nat → List Int → List Int → Int → Option (Bool)
  | 0, _, _, _ => none
  | k + 1, x0, x1, x5 => if x5 < (x0.length : Int) then (if 0 ≤ x5 then (if x5 < (x1.length : Int) then (if (rd x0 x5) = (rd x1 x5) then (laws_eqIntS.l0 k x0 x1 (wrap64 (x5 + 1))) else (some false)) else (none)) else (none)) else (some true)
def laws_eqIntS.f (k : Nat) (l0 : List Int) (l1 : List Int) : Option (Bool) := if (l0.length : Int) = (l1.length : Int) then (laws_eqIntS.l0 k l0 l1 0) else (some false)
theorem laws_eqIntS.mono_l : ∀ k, (∀ y0 y1 y2, LeO (laws_eqIntS.l0 k y0 y1 y2) (laws_eqIntS.l0 (k + 1) y0 y1 y2))
  | 0 => fun _ _ _ r h => by simp [laws_eqIntS.l0] at h
  | k + 1 => by
    have ih0 := laws_eqIntS.mono_l k
    · intro y0 y1 y2
      unfold laws_eqIntS.l0
      repeat' first
      | (with_reducible exact ih0 _ _ _)
      | (with_reducible exact LeO.refl _)
      | (with_reducible exact LeO.none _)
      | (with_reducible refine LeO.ite ?_ ?_)
      | (with_reducible refine LeO.bind ?_ (fun _ => ?_))
      | exact ih0 _ _ _
      | exact LeO.none _
      | refine LeO.ite ?_ ?_
      | refine LeO.bind ?_ (fun _ => ?_)
theorem laws_eqIntS.mono : ∀ a0 a1 k, LeO (laws_eqIntS.f k a0 a1) (laws_eqIntS.f (k + 1) a0 a1) := by
  intro a0 a1 k
  have ih0 := laws_eqIntS.mono_l k
  unfold laws_eqIntS.f
  repeat' first
      | (with_reducible exact ih0 _ _ _)
      | (with_reducible exact LeO.refl _)
      | (with_reducible exact LeO.none _)
      | (with_reducible refine LeO.ite ?_ ?_)
      | (with_reducible refine LeO.bind ?_ (fun _ => ?_))
      | exact ih0 _ _ _
      | exact LeO.none _
      | refine LeO.ite ?_ ?_
      | refine LeO.bind ?_ (fun _ => ?_)
set_option maxHeartbeats 8000000 in
set_option maxRecDepth 100000 in
theorem laws_eqIntS.calls (k : Nat) (A0 : Option Addr) (c0 : Nat) (l0 : List Int) (A1 : Option Addr) (c1 : Nat) (l1 : List Int) (r : Bool) (w : World) (hr0 : Kd.C (Kd.int .i64) w A0 l0.length l0) (hc0 : l0.length ≤ c0) (hr1 : Kd.C (Kd.int .i64) w A1 l1.length l1) (hc1 : l1.length ≤ c1) (h : laws_eqIntS.f k l0 l1 = some r) :
    Calls Try.prog 15 #[.slice A0 l0.length c0, .slice A1 l1.length c1] w fun e w' => e = .returned (.bool r) ∧ Drawn0 w w' := by
  have HR0 := Aside0.mk hr0
  have HC0 := Aside0.mk hc0
  clear hr0 hc0
  have HR1 := Aside0.mk hr1
  have HC1 := Aside0.mk hc1
  clear hr1 hc1
  have H : (if (l0.length : Int) = (l1.length : Int) then (laws_eqIntS.l0 k l0 l1 0) else (some false)) = some r := h
  clear h
  by_cases c3 : (l0.length : Int) = (l1.length : Int)
  · rw [if_pos c3] at H
    have c3b0 : ((l0.length : Int) == (l1.length : Int)) = true := beq_iff_eq.mpr c3
    have c3b1 : ((l0.length : Int) != (l1.length : Int)) = false := bne_eq_false_iff_eq.mpr c3
    have c3b2 : (l0.length == l1.length) = true := by first | simpa using c3 | (simp at c3 ⊢; omega)
    clear c3
    have H' := Aside0.mk H
    clear H
    go_enter Try.func15, Try.ntmps15
    go_wp2
    repeat (go_quiet (fail); try go_wp2)
    go_loopg [5] k (fun kq v5 w' => ∃ (x5_1 : Int), v5 = .int .i64 x5_1 ∧ Aside0 (laws_eqIntS.l0 kq l0 l1 x5_1 = some r) ∧ Aside0 (kq ≤ k) ∧ Drawn0 w w')
    case atStart => exact ⟨(0), (by first | rfl | (simp; done) | (simp [*]; done)), H', ⟨Nat.le_refl _⟩, by repeat (first | exact Drawn0.refl _ | apply Drawn0.step)⟩
    case round =>
      clear H'
      try clear c1
      try clear p2
      try clear c3
      try clear c3b0
      try clear c3b1
      try clear c3b2
      obtain ⟨x5_1, rfl, HA, HK1, ⟨m1, rfl⟩⟩ := hrel
      cases gk with
      | zero => exact absurd HA.out (by simp [laws_eqIntS.l0])
      | succ k1 =>
        have H := HA.out
        clear HA
        simp only [laws_eqIntS.l0] at H
        by_cases c4 : x5_1 < (l0.length : Int)
        · rw [if_pos c4] at H
          have c4b0 : decide (x5_1 < (l0.length : Int)) = true := decide_eq_true c4
          clear c4
          by_cases c5 : 0 ≤ x5_1
          · rw [if_pos c5] at H
            have c5b0 : decide (0 ≤ x5_1) = true := decide_eq_true c5
            clear c5
            by_cases c6 : x5_1 < (l1.length : Int)
            · rw [if_pos c6] at H
              have c6b0 : decide (x5_1 < (l1.length : Int)) = true := decide_eq_true c6
              clear c6
              by_cases c7 : (rd l0 x5_1) = (rd l1 x5_1)
              · rw [if_pos c7] at H
                have c7b0 : ((rd l0 x5_1) == (rd l1 x5_1)) = true := beq_iff_eq.mpr c7
                have c7b1 : ((rd l0 x5_1) != (rd l1 x5_1)) = false := bne_eq_false_iff_eq.mpr c7
                clear c7
                have H' := Aside0.mk H
                clear H
                have p181 : 0 ≤ (x5_1 : Int) := of_decide_eq_true (by first | (with_reducible assumption) | assumption)
                have q181 : x5_1 < (l0.length : Int) := of_decide_eq_true (by first | (with_reducible assumption) | assumption)
                obtain ⟨ad181, e181, hx181_0⟩ := Kd.at_int HR0.out x5_1 p181 q181
                cases e181
                replace p181 := eq_true p181
                replace q181 := eq_true q181
                have p182 : 0 ≤ (x5_1 : Int) := of_decide_eq_true (by first | (with_reducible assumption) | assumption)
                have q182 : x5_1 < (l1.length : Int) := of_decide_eq_true (by first | (with_reducible assumption) | assumption)
                obtain ⟨ad182, e182, hx182_0⟩ := Kd.at_int HR1.out x5_1 p182 q182
                cases e182
                replace p182 := eq_true p182
                replace q182 := eq_true q182
                go_wp2
                repeat (go_quiet (fail); try go_wp2)
                go_roundg k1
                case measure => have := HK1.out; omega
                case rel => exact ⟨(wrap64 (x5_1 + 1)), (by first | rfl | (simp; done) | (simp [*]; done)), H', ⟨by have := HK1.out; omega⟩, by repeat (first | exact Drawn0.refl _ | apply Drawn0.step)⟩
              · rw [if_neg c7] at H
                have c7b0 : ((rd l0 x5_1) == (rd l1 x5_1)) = false := beq_eq_false_iff_ne.mpr c7
                have c7b1 : ((rd l0 x5_1) != (rd l1 x5_1)) = true := bne_iff_ne.mpr c7
                obtain rfl := Option.some.inj H
                have p181 : 0 ≤ (x5_1 : Int) := of_decide_eq_true (by first | (with_reducible assumption) | assumption)
                have q181 : x5_1 < (l0.length : Int) := of_decide_eq_true (by first | (with_reducible assumption) | assumption)
                obtain ⟨ad181, e181, hx181_0⟩ := Kd.at_int HR0.out x5_1 p181 q181
                cases e181
                replace p181 := eq_true p181
                replace q181 := eq_true q181
                have p182 : 0 ≤ (x5_1 : Int) := of_decide_eq_true (by first | (with_reducible assumption) | assumption)
                have q182 : x5_1 < (l1.length : Int) := of_decide_eq_true (by first | (with_reducible assumption) | assumption)
                obtain ⟨ad182, e182, hx182_0⟩ := Kd.at_int HR1.out x5_1 p182 q182
                cases e182
                replace p182 := eq_true p182
                replace q182 := eq_true q182
                go_wp2
                repeat (go_quiet (fail); try go_wp2)
                go_ret
                exact ⟨by first | rfl | (simp; done) | (simp [*]; done), by repeat (first | exact Drawn0.refl _ | apply Drawn0.step)⟩
            · rw [if_neg c6] at H
              exact absurd H (by simp)
          · rw [if_neg c5] at H
            exact absurd H (by simp)
        · rw [if_neg c4] at H
          have c4b0 : decide (x5_1 < (l0.length : Int)) = false := decide_eq_false c4
          clear c4
          obtain rfl := Option.some.inj H
          go_wp2
          repeat (go_quiet (fail); try go_wp2)
          go_ret
          exact ⟨by first | rfl | (simp; done) | (simp [*]; done), by repeat (first | exact Drawn0.refl _ | apply Drawn0.step)⟩
  · rw [if_neg c3] at H
    have c3b0 : ((l0.length : Int) == (l1.length : Int)) = false := beq_eq_false_iff_ne.mpr c3
    have c3b1 : ((l0.length : Int) != (l1.length : Int)) = true := bne_iff_ne.mpr c3
    have c3b2 : (l0.length == l1.length) = false := by first | simpa using c3 | (simp at c3 ⊢; omega)
    obtain rfl := Option.some.inj H
    go_enter Try.func15, Try.ntmps15
    go_wp2
    repeat (go_quiet (fail); try go_wp2)
    go_ret
    exact ⟨by first | rfl | (simp; done) | (simp [*]; done), by repeat (first | exact Drawn0.refl _ | apply Drawn0.step)⟩

/-! ### laws_eqView: function 14 -/
def laws_eqView.f (k : Nat) (l0_0 : List Int) (l0_1 : List Int) (a0_2 : Int) (a0_3 : Int) (l1_0 : List Int) (l1_1 : List Int) (a1_2 : Int) (a1_3 : Int) : Option (Bool) := (laws_eqIntS.f k l0_0 l1_0).bind fun t185 => (if t185 = true then ((laws_eqIntS.f k l0_1 l1_1).bind fun t186 => (if t186 = true then (if a0_2 = a1_2 then (if a0_3 = a1_3 then (some true) else (some false)) else (some false)) else (some false))) else (some false))
theorem laws_eqView.mono : ∀ a0 a1 a2 a3 a4 a5 a6 a7 k, LeO (laws_eqView.f k a0 a1 a2 a3 a4 a5 a6 a7) (laws_eqView.f (k + 1) a0 a1 a2 a3 a4 a5 a6 a7) := by
  intro a0 a1 a2 a3 a4 a5 a6 a7 k
  unfold laws_eqView.f
  repeat' first
      | (with_reducible exact laws_eqIntS.mono _ _ _)
      | (with_reducible exact LeO.refl _)
      | (with_reducible exact LeO.none _)
      | (with_reducible refine LeO.ite ?_ ?_)
      | (with_reducible refine LeO.bind ?_ (fun _ => ?_))
      | exact laws_eqIntS.mono _ _ _
      | exact LeO.none _
      | refine LeO.ite ?_ ?_
      | refine LeO.bind ?_ (fun _ => ?_)
set_option maxHeartbeats 8000000 in
set_option maxRecDepth 100000 in
theorem laws_eqView.calls (k : Nat) (A0_0 : Option Addr) (c0_0 : Nat) (l0_0 : List Int) (A0_1 : Option Addr) (c0_1 : Nat) (l0_1 : List Int) (a0_2 : Int) (a0_3 : Int) (A1_0 : Option Addr) (c1_0 : Nat) (l1_0 : List Int) (A1_1 : Option Addr) (c1_1 : Nat) (l1_1 : List Int) (a1_2 : Int) (a1_3 : Int) (r : Bool) (w : World) (hr0_0 : Kd.C (Kd.int .i64) w A0_0 l0_0.length l0_0) (hc0_0 : l0_0.length ≤ c0_0) (hr0_1 : Kd.C (Kd.int .i64) w A0_1 l0_1.length l0_1) (hc0_1 : l0_1.length ≤ c0_1) (hr1_0 : Kd.C (Kd.int .i64) w A1_0 l1_0.length l1_0) (hc1_0 : l1_0.length ≤ c1_0) (hr1_1 : Kd.C (Kd.int .i64) w A1_1 l1_1.length l1_1) (hc1_1 : l1_1.length ≤ c1_1) (h : laws_eqView.f k l0_0 l0_1 a0_2 a0_3 l1_0 l1_1 a1_2 a1_3 = some r) :
    Calls Try.prog 14 #[.agg #[.slice A0_0 l0_0.length c0_0, .slice A0_1 l0_1.length c0_1, .int .i64 a0_2, .int .i64 a0_3], .agg #[.slice A1_0 l1_0.length c1_0, .slice A1_1 l1_1.length c1_1, .int .i64 a1_2, .int .i64 a1_3]] w fun e w' => e = .returned (.bool r) ∧ Below w.heap.size w w' := by
  have hu26 := Try.underlying26
  have HR0_0 := Aside0.mk hr0_0
  have HC0_0 := Aside0.mk hc0_0
  clear hr0_0 hc0_0
  have HR0_1 := Aside0.mk hr0_1
  have HC0_1 := Aside0.mk hc0_1
  clear hr0_1 hc0_1
  have HR1_0 := Aside0.mk hr1_0
  have HC1_0 := Aside0.mk hc1_0
  clear hr1_0 hc1_0
  have HR1_1 := Aside0.mk hr1_1
  have HC1_1 := Aside0.mk hc1_1
  clear hr1_1 hc1_1
  have HB := Aside0.mk (Below.refl w.heap.size w)
  have H : ((laws_eqIntS.f k l0_0 l1_0).bind fun t185 => (if t185 = true then ((laws_eqIntS.f k l0_1 l1_1).bind fun t186 => (if t186 = true then (if a0_2 = a1_2 then (if a0_3 = a1_3 then (some true) else (some false)) else (some false)) else (some false))) else (some false))) = some r := h
  clear h
  replace H := Option.bind_eq_some_iff.mp H
  obtain ⟨t185, A30, H⟩ := H
  replace H : (if t185 = true then ((laws_eqIntS.f k l0_1 l1_1).bind fun t186 => (if t186 = true then (if a0_2 = a1_2 then (if a0_3 = a1_3 then (some true) else (some false)) else (some false)) else (some false))) else (some false)) = some r := H
  have A3 := Aside0.mk A30
  clear A30
  by_cases c4 : t185 = true
  · subst c4
    have H1 : ((laws_eqIntS.f k l0_1 l1_1).bind fun t186 => (if t186 = true then (if a0_2 = a1_2 then (if a0_3 = a1_3 then (some true) else (some false)) else (some false)) else (some false))) = some r := by rw [if_pos rfl] at H; exact H
    clear H
    have H := H1
    clear H1
    replace H := Option.bind_eq_some_iff.mp H
    obtain ⟨t186, A50, H⟩ := H
    replace H : (if t186 = true then (if a0_2 = a1_2 then (if a0_3 = a1_3 then (some true) else (some false)) else (some false)) else (some false)) = some r := H
    have A5 := Aside0.mk A50
    clear A50
    by_cases c6 : t186 = true
    · subst c6
      have H1 : (if a0_2 = a1_2 then (if a0_3 = a1_3 then (some true) else (some false)) else (some false)) = some r := by rw [if_pos rfl] at H; exact H
      clear H
      have H := H1
      clear H1
      by_cases c7 : a0_2 = a1_2
      · rw [if_pos c7] at H
        have c7b0 : (a0_2 == a1_2) = true := beq_iff_eq.mpr c7
        have c7b1 : (a0_2 != a1_2) = false := bne_eq_false_iff_eq.mpr c7
        clear c7
        by_cases c8 : a0_3 = a1_3
        · rw [if_pos c8] at H
          have c8b0 : (a0_3 == a1_3) = true := beq_iff_eq.mpr c8
          have c8b1 : (a0_3 != a1_3) = false := bne_eq_false_iff_eq.mpr c8
          clear c8
          obtain rfl := Option.some.inj H
          go_enter Try.func14, Try.ntmps14
          go_wp2_with (first | ((with_reducible refine gate_dst (N := 2) rfl ?_); refine box_event ?hg (N := 2) ?hd (cs := #[.slice A0_0 l0_0.length c0_0, .slice A0_1 l0_1.length c0_1, .int .i64 a0_2, .int .i64 a0_3]) (t := 26) ?hr ?_; (case hd => rfl); (case hg => rfl); (case hr => first | (go_simp; done) | (go_simp; rfl)); intro gb183 hg w9 hbox hb; have n0_ := Aside0.mk (below_step (by repeat (first | (with_reducible first | exact HB.out | apply below_alloc | apply pw_below_drewN | apply below_drew1) | exact HB.out)) hb); have n1_ := Aside0.mk (hbox); have n2_ := Aside0.mk ((by rw [hg]; exact (below_size (by repeat (first | (with_reducible first | exact HB.out | apply below_alloc | apply pw_below_drewN | apply below_drew1) | exact HB.out))) : w.heap.size ≤ gb183)); have n3_ := Aside0.mk ((by rw [hg]; exact (below_size (by repeat (first | (with_reducible first | exact HB.out | apply below_alloc | apply pw_below_drewN | apply below_drew1) | exact HB.out))) : w.heap.size ≤ gb183)); clear HB; have HB := n0_; have BK183 := n1_; have GW183 := n2_; have GE183 := n3_; clear n0_ n1_ n2_ n3_; clear hb hbox hg) | ((with_reducible refine gate_dst (N := 3) rfl ?_); refine box_event ?hg (N := 3) ?hd (cs := #[.slice A1_0 l1_0.length c1_0, .slice A1_1 l1_1.length c1_1, .int .i64 a1_2, .int .i64 a1_3]) (t := 26) ?hr ?_; (case hd => rfl); (case hg => rfl); (case hr => first | (go_simp; done) | (go_simp; rfl)); intro gb184 hg w10 hbox hb; have n0_ := Aside0.mk (blk_below (g := gb183) (o := .cells #[.slice A0_0 l0_0.length c0_0, .slice A0_1 l0_1.length c0_1, .int .i64 a0_2, .int .i64 a0_3] 26 (0, 0)) (by (with_reducible repeat (first | refine blk_drewN ?_ _ | refine blk_drew ?_ | refine blk_alloc ?_ _)); exact BK183.out) hb); have n1_ := Aside0.mk (below_step (by repeat (first | (with_reducible first | exact HB.out | apply below_alloc | apply pw_below_drewN | apply below_drew1 | refine below_set ?_ GE183.out) | exact HB.out)) hb); have n2_ := Aside0.mk (hbox); have n3_ := Aside0.mk ((by rw [hg]; exact (below_size (by repeat (first | (with_reducible first | exact HB.out | apply below_alloc | apply pw_below_drewN | apply below_drew1 | refine below_set ?_ GE183.out) | exact HB.out))) : w.heap.size ≤ gb184)); have n4_ := Aside0.mk ((by rw [hg]; exact (below_size (by repeat (first | (with_reducible first | exact HB.out | apply below_alloc | apply pw_below_drewN | apply below_drew1 | refine below_set ?_ GE183.out) | exact HB.out))) : w.heap.size ≤ gb184)); have n5_ := Aside0.mk ((by rw [hg]; exact Nat.ne_of_lt (blk_lt (g := gb183) (o := .cells #[.slice A0_0 l0_0.length c0_0, .slice A0_1 l0_1.length c0_1, .int .i64 a0_2, .int .i64 a0_3] 26 (0, 0)) (by (with_reducible repeat (first | refine blk_drewN ?_ _ | refine blk_drew ?_ | refine blk_alloc ?_ _)); exact BK183.out)) : gb183 ≠ gb184)); have n6_ := Aside0.mk ((by rw [hg]; exact Nat.ne_of_gt (blk_lt (g := gb183) (o := .cells #[.slice A0_0 l0_0.length c0_0, .slice A0_1 l0_1.length c0_1, .int .i64 a0_2, .int .i64 a0_3] 26 (0, 0)) (by (with_reducible repeat (first | refine blk_drewN ?_ _ | refine blk_drew ?_ | refine blk_alloc ?_ _)); exact BK183.out)) : gb184 ≠ gb183)); clear BK183; clear HB; have BK183 := n0_; have HB := n1_; have BK184 := n2_; have GW184 := n3_; have GE184 := n4_; have NB183_184 := n5_; have NB184_183 := n6_; clear n0_ n1_ n2_ n3_ n4_ n5_ n6_; clear hb hbox hg; have hnb11 := NB183_184.out; have hnc11 := NB184_183.out; have hcz12_0 : w10.cell? ⟨gb183, 0, none⟩ = some (.slice A0_0 l0_0.length c0_0) := (blk_cell BK183.out 0).trans rfl; have hcz12_1 : w10.cell? ⟨gb183, 1, none⟩ = some (.slice A0_1 l0_1.length c0_1) := (blk_cell BK183.out 1).trans rfl; have hcz12_2 : w10.cell? ⟨gb183, 2, none⟩ = some (.int .i64 a0_2) := (blk_cell BK183.out 2).trans rfl; have hcz12_3 : w10.cell? ⟨gb183, 3, none⟩ = some (.int .i64 a0_3) := (blk_cell BK183.out 3).trans rfl; have hfz12_0 := blk_frozen BK183.out 0; have hfz12_1 := blk_frozen BK183.out 1; have hfz12_2 := blk_frozen BK183.out 2; have hfz12_3 := blk_frozen BK183.out 3; have hcz13_0 : w10.cell? ⟨gb184, 0, none⟩ = some (.slice A1_0 l1_0.length c1_0) := (blk_cell BK184.out 0).trans rfl; have hcz13_1 : w10.cell? ⟨gb184, 1, none⟩ = some (.slice A1_1 l1_1.length c1_1) := (blk_cell BK184.out 1).trans rfl; have hcz13_2 : w10.cell? ⟨gb184, 2, none⟩ = some (.int .i64 a1_2) := (blk_cell BK184.out 2).trans rfl; have hcz13_3 : w10.cell? ⟨gb184, 3, none⟩ = some (.int .i64 a1_3) := (blk_cell BK184.out 3).trans rfl; have hfz13_0 := blk_frozen BK184.out 0; have hfz13_1 := blk_frozen BK184.out 1; have hfz13_2 := blk_frozen BK184.out 2; have hfz13_3 := blk_frozen BK184.out 3) | ((with_reducible refine gate_callee (f := 15) rfl ?_); refine goesL_ (some 9) rfl rfl Try.func15 (by kernel_rfl) rfl #[.slice A0_0 l0_0.length c0_0, .slice A1_0 l1_0.length c1_0] rfl (by (try simp only [List.map_toArray, List.map_cons, List.map_nil]); first | done | rfl | (simp only [List.length_drop, List.length_take]; rfl)) ?_; (with_reducible refine (laws_eqIntS.calls k _ _ l0_0 _ _ l1_0 true _ ?side1 ?side2 ?side3 ?side4 A3.out).mono ?_); (case side1 => repeat (first | exact (Kd.C_below HR0_0.out HB.out) | (with_reducible refine Kd.C_alloc ?_ _) | (with_reducible refine Kd.C_drewN ?_ _) | (with_reducible refine Kd.C_drew ?_))); (case side2 => exact HC0_0.out); (case side3 => repeat (first | exact (Kd.C_below HR1_0.out HB.out) | (with_reducible refine Kd.C_alloc ?_ _) | (with_reducible refine Kd.C_drewN ?_ _) | (with_reducible refine Kd.C_drew ?_))); (case side4 => exact HC1_0.out); rintro e w' ⟨rfl, ⟨nd, rfl⟩⟩; refine ⟨_, rfl, ?_⟩) | ((with_reducible refine gate_callee (f := 15) rfl ?_); refine goesL_ (some 15) rfl rfl Try.func15 (by kernel_rfl) rfl #[.slice A0_1 l0_1.length c0_1, .slice A1_1 l1_1.length c1_1] rfl (by (try simp only [List.map_toArray, List.map_cons, List.map_nil]); first | done | rfl | (simp only [List.length_drop, List.length_take]; rfl)) ?_; (with_reducible refine (laws_eqIntS.calls k _ _ l0_1 _ _ l1_1 true _ ?side1 ?side2 ?side3 ?side4 A5.out).mono ?_); (case side1 => repeat (first | exact (Kd.C_below HR0_1.out (by repeat (first | (with_reducible first | exact HB.out | apply below_alloc | apply pw_below_drewN | apply below_drew1 | refine below_set ?_ GE183.out | refine below_set ?_ GE184.out) | exact HB.out))) | (with_reducible refine Kd.C_alloc ?_ _) | (with_reducible refine Kd.C_drewN ?_ _) | (with_reducible refine Kd.C_drew ?_))); (case side2 => exact HC0_1.out); (case side3 => repeat (first | exact (Kd.C_below HR1_1.out (by repeat (first | (with_reducible first | exact HB.out | apply below_alloc | apply pw_below_drewN | apply below_drew1 | refine below_set ?_ GE183.out | refine below_set ?_ GE184.out) | exact HB.out))) | (with_reducible refine Kd.C_alloc ?_ _) | (with_reducible refine Kd.C_drewN ?_ _) | (with_reducible refine Kd.C_drew ?_))); (case side4 => exact HC1_1.out); rintro e w' ⟨rfl, ⟨nd, rfl⟩⟩; refine ⟨_, rfl, ?_⟩))
          go_ret
          exact ⟨by first | rfl | (simp [errW_none, errW_some] <;> rfl) | (simp [*, errW_none, errW_some] <;> rfl), by repeat (first | (with_reducible first | exact HB.out | apply below_alloc | apply pw_below_drewN | apply below_drew1 | refine below_set ?_ GE183.out | refine below_set ?_ GE184.out) | exact HB.out)⟩
        · rw [if_neg c8] at H
          have c8b0 : (a0_3 == a1_3) = false := beq_eq_false_iff_ne.mpr c8
          have c8b1 : (a0_3 != a1_3) = true := bne_iff_ne.mpr c8
          obtain rfl := Option.some.inj H
          go_enter Try.func14, Try.ntmps14
          go_wp2_with (first | ((with_reducible refine gate_dst (N := 2) rfl ?_); refine box_event ?hg (N := 2) ?hd (cs := #[.slice A0_0 l0_0.length c0_0, .slice A0_1 l0_1.length c0_1, .int .i64 a0_2, .int .i64 a0_3]) (t := 26) ?hr ?_; (case hd => rfl); (case hg => rfl); (case hr => first | (go_simp; done) | (go_simp; rfl)); intro gb183 hg w14 hbox hb; have n0_ := Aside0.mk (below_step (by repeat (first | (with_reducible first | exact HB.out | apply below_alloc | apply pw_below_drewN | apply below_drew1) | exact HB.out)) hb); have n1_ := Aside0.mk (hbox); have n2_ := Aside0.mk ((by rw [hg]; exact (below_size (by repeat (first | (with_reducible first | exact HB.out | apply below_alloc | apply pw_below_drewN | apply below_drew1) | exact HB.out))) : w.heap.size ≤ gb183)); have n3_ := Aside0.mk ((by rw [hg]; exact (below_size (by repeat (first | (with_reducible first | exact HB.out | apply below_alloc | apply pw_below_drewN | apply below_drew1) | exact HB.out))) : w.heap.size ≤ gb183)); clear HB; have HB := n0_; have BK183 := n1_; have GW183 := n2_; have GE183 := n3_; clear n0_ n1_ n2_ n3_; clear hb hbox hg) | ((with_reducible refine gate_dst (N := 3) rfl ?_); refine box_event ?hg (N := 3) ?hd (cs := #[.slice A1_0 l1_0.length c1_0, .slice A1_1 l1_1.length c1_1, .int .i64 a1_2, .int .i64 a1_3]) (t := 26) ?hr ?_; (case hd => rfl); (case hg => rfl); (case hr => first | (go_simp; done) | (go_simp; rfl)); intro gb184 hg w15 hbox hb; have n0_ := Aside0.mk (blk_below (g := gb183) (o := .cells #[.slice A0_0 l0_0.length c0_0, .slice A0_1 l0_1.length c0_1, .int .i64 a0_2, .int .i64 a0_3] 26 (0, 0)) (by (with_reducible repeat (first | refine blk_drewN ?_ _ | refine blk_drew ?_ | refine blk_alloc ?_ _)); exact BK183.out) hb); have n1_ := Aside0.mk (below_step (by repeat (first | (with_reducible first | exact HB.out | apply below_alloc | apply pw_below_drewN | apply below_drew1 | refine below_set ?_ GE183.out) | exact HB.out)) hb); have n2_ := Aside0.mk (hbox); have n3_ := Aside0.mk ((by rw [hg]; exact (below_size (by repeat (first | (with_reducible first | exact HB.out | apply below_alloc | apply pw_below_drewN | apply below_drew1 | refine below_set ?_ GE183.out) | exact HB.out))) : w.heap.size ≤ gb184)); have n4_ := Aside0.mk ((by rw [hg]; exact (below_size (by repeat (first | (with_reducible first | exact HB.out | apply below_alloc | apply pw_below_drewN | apply below_drew1 | refine below_set ?_ GE183.out) | exact HB.out))) : w.heap.size ≤ gb184)); have n5_ := Aside0.mk ((by rw [hg]; exact Nat.ne_of_lt (blk_lt (g := gb183) (o := .cells #[.slice A0_0 l0_0.length c0_0, .slice A0_1 l0_1.length c0_1, .int .i64 a0_2, .int .i64 a0_3] 26 (0, 0)) (by (with_reducible repeat (first | refine blk_drewN ?_ _ | refine blk_drew ?_ | refine blk_alloc ?_ _)); exact BK183.out)) : gb183 ≠ gb184)); have n6_ := Aside0.mk ((by rw [hg]; exact Nat.ne_of_gt (blk_lt (g := gb183) (o := .cells #[.slice A0_0 l0_0.length c0_0, .slice A0_1 l0_1.length c0_1, .int .i64 a0_2, .int .i64 a0_3] 26 (0, 0)) (by (with_reducible repeat (first | refine blk_drewN ?_ _ | refine blk_drew ?_ | refine blk_alloc ?_ _)); exact BK183.out)) : gb184 ≠ gb183)); clear BK183; clear HB; have BK183 := n0_; have HB := n1_; have BK184 := n2_; have GW184 := n3_; have GE184 := n4_; have NB183_184 := n5_; have NB184_183 := n6_; clear n0_ n1_ n2_ n3_ n4_ n5_ n6_; clear hb hbox hg; have hnb16 := NB183_184.out; have hnc16 := NB184_183.out; have hcz17_0 : w15.cell? ⟨gb183, 0, none⟩ = some (.slice A0_0 l0_0.length c0_0) := (blk_cell BK183.out 0).trans rfl; have hcz17_1 : w15.cell? ⟨gb183, 1, none⟩ = some (.slice A0_1 l0_1.length c0_1) := (blk_cell BK183.out 1).trans rfl; have hcz17_2 : w15.cell? ⟨gb183, 2, none⟩ = some (.int .i64 a0_2) := (blk_cell BK183.out 2).trans rfl; have hcz17_3 : w15.cell? ⟨gb183, 3, none⟩ = some (.int .i64 a0_3) := (blk_cell BK183.out 3).trans rfl; have hfz17_0 := blk_frozen BK183.out 0; have hfz17_1 := blk_frozen BK183.out 1; have hfz17_2 := blk_frozen BK183.out 2; have hfz17_3 := blk_frozen BK183.out 3; have hcz18_0 : w15.cell? ⟨gb184, 0, none⟩ = some (.slice A1_0 l1_0.length c1_0) := (blk_cell BK184.out 0).trans rfl; have hcz18_1 : w15.cell? ⟨gb184, 1, none⟩ = some (.slice A1_1 l1_1.length c1_1) := (blk_cell BK184.out 1).trans rfl; have hcz18_2 : w15.cell? ⟨gb184, 2, none⟩ = some (.int .i64 a1_2) := (blk_cell BK184.out 2).trans rfl; have hcz18_3 : w15.cell? ⟨gb184, 3, none⟩ = some (.int .i64 a1_3) := (blk_cell BK184.out 3).trans rfl; have hfz18_0 := blk_frozen BK184.out 0; have hfz18_1 := blk_frozen BK184.out 1; have hfz18_2 := blk_frozen BK184.out 2; have hfz18_3 := blk_frozen BK184.out 3) | ((with_reducible refine gate_callee (f := 15) rfl ?_); refine goesL_ (some 9) rfl rfl Try.func15 (by kernel_rfl) rfl #[.slice A0_0 l0_0.length c0_0, .slice A1_0 l1_0.length c1_0] rfl (by (try simp only [List.map_toArray, List.map_cons, List.map_nil]); first | done | rfl | (simp only [List.length_drop, List.length_take]; rfl)) ?_; (with_reducible refine (laws_eqIntS.calls k _ _ l0_0 _ _ l1_0 true _ ?side1 ?side2 ?side3 ?side4 A3.out).mono ?_); (case side1 => repeat (first | exact (Kd.C_below HR0_0.out HB.out) | (with_reducible refine Kd.C_alloc ?_ _) | (with_reducible refine Kd.C_drewN ?_ _) | (with_reducible refine Kd.C_drew ?_))); (case side2 => exact HC0_0.out); (case side3 => repeat (first | exact (Kd.C_below HR1_0.out HB.out) | (with_reducible refine Kd.C_alloc ?_ _) | (with_reducible refine Kd.C_drewN ?_ _) | (with_reducible refine Kd.C_drew ?_))); (case side4 => exact HC1_0.out); rintro e w' ⟨rfl, ⟨nd, rfl⟩⟩; refine ⟨_, rfl, ?_⟩) | ((with_reducible refine gate_callee (f := 15) rfl ?_); refine goesL_ (some 15) rfl rfl Try.func15 (by kernel_rfl) rfl #[.slice A0_1 l0_1.length c0_1, .slice A1_1 l1_1.length c1_1] rfl (by (try simp only [List.map_toArray, List.map_cons, List.map_nil]); first | done | rfl | (simp only [List.length_drop, List.length_take]; rfl)) ?_; (with_reducible refine (laws_eqIntS.calls k _ _ l0_1 _ _ l1_1 true _ ?side1 ?side2 ?side3 ?side4 A5.out).mono ?_); (case side1 => repeat (first | exact (Kd.C_below HR0_1.out (by repeat (first | (with_reducible first | exact HB.out | apply below_alloc | apply pw_below_drewN | apply below_drew1 | refine below_set ?_ GE183.out | refine below_set ?_ GE184.out) | exact HB.out))) | (with_reducible refine Kd.C_alloc ?_ _) | (with_reducible refine Kd.C_drewN ?_ _) | (with_reducible refine Kd.C_drew ?_))); (case side2 => exact HC0_1.out); (case side3 => repeat (first | exact (Kd.C_below HR1_1.out (by repeat (first | (with_reducible first | exact HB.out | apply below_alloc | apply pw_below_drewN | apply below_drew1 | refine below_set ?_ GE183.out | refine below_set ?_ GE184.out) | exact HB.out))) | (with_reducible refine Kd.C_alloc ?_ _) | (with_reducible refine Kd.C_drewN ?_ _) | (with_reducible refine Kd.C_drew ?_))); (case side4 => exact HC1_1.out); rintro e w' ⟨rfl, ⟨nd, rfl⟩⟩; refine ⟨_, rfl, ?_⟩))
          go_ret
          exact ⟨by first | rfl | (simp [errW_none, errW_some] <;> rfl) | (simp [*, errW_none, errW_some] <;> rfl), by repeat (first | (with_reducible first | exact HB.out | apply below_alloc | apply pw_below_drewN | apply below_drew1 | refine below_set ?_ GE183.out | refine below_set ?_ GE184.out) | exact HB.out)⟩
      · rw [if_neg c7] at H
        have c7b0 : (a0_2 == a1_2) = false := beq_eq_false_iff_ne.mpr c7
        have c7b1 : (a0_2 != a1_2) = true := bne_iff_ne.mpr c7
        obtain rfl := Option.some.inj H
        go_enter Try.func14, Try.ntmps14
        go_wp2_with (first | ((with_reducible refine gate_dst (N := 2) rfl ?_); refine box_event ?hg (N := 2) ?hd (cs := #[.slice A0_0 l0_0.length c0_0, .slice A0_1 l0_1.length c0_1, .int .i64 a0_2, .int .i64 a0_3]) (t := 26) ?hr ?_; (case hd => rfl); (case hg => rfl); (case hr => first | (go_simp; done) | (go_simp; rfl)); intro gb183 hg w19 hbox hb; have n0_ := Aside0.mk (below_step (by repeat (first | (with_reducible first | exact HB.out | apply below_alloc | apply pw_below_drewN | apply below_drew1) | exact HB.out)) hb); have n1_ := Aside0.mk (hbox); have n2_ := Aside0.mk ((by rw [hg]; exact (below_size (by repeat (first | (with_reducible first | exact HB.out | apply below_alloc | apply pw_below_drewN | apply below_drew1) | exact HB.out))) : w.heap.size ≤ gb183)); have n3_ := Aside0.mk ((by rw [hg]; exact (below_size (by repeat (first | (with_reducible first | exact HB.out | apply below_alloc | apply pw_below_drewN | apply below_drew1) | exact HB.out))) : w.heap.size ≤ gb183)); clear HB; have HB := n0_; have BK183 := n1_; have GW183 := n2_; have GE183 := n3_; clear n0_ n1_ n2_ n3_; clear hb hbox hg) | ((with_reducible refine gate_dst (N := 3) rfl ?_); refine box_event ?hg (N := 3) ?hd (cs := #[.slice A1_0 l1_0.length c1_0, .slice A1_1 l1_1.length c1_1, .int .i64 a1_2, .int .i64 a1_3]) (t := 26) ?hr ?_; (case hd => rfl); (case hg => rfl); (case hr => first | (go_simp; done) | (go_simp; rfl)); intro gb184 hg w20 hbox hb; have n0_ := Aside0.mk (blk_below (g := gb183) (o := .cells #[.slice A0_0 l0_0.length c0_0, .slice A0_1 l0_1.length c0_1, .int .i64 a0_2, .int .i64 a0_3] 26 (0, 0)) (by (with_reducible repeat (first | refine blk_drewN ?_ _ | refine blk_drew ?_ | refine blk_alloc ?_ _)); exact BK183.out) hb); have n1_ := Aside0.mk (below_step (by repeat (first | (with_reducible first | exact HB.out | apply below_alloc | apply pw_below_drewN | apply below_drew1 | refine below_set ?_ GE183.out) | exact HB.out)) hb); have n2_ := Aside0.mk (hbox); have n3_ := Aside0.mk ((by rw [hg]; exact (below_size (by repeat (first | (with_reducible first | exact HB.out | apply below_alloc | apply pw_below_drewN | apply below_drew1 | refine below_set ?_ GE183.out) | exact HB.out))) : w.heap.size ≤ gb184)); have n4_ := Aside0.mk ((by rw [hg]; exact (below_size (by repeat (first | (with_reducible first | exact HB.out | apply below_alloc | apply pw_below_drewN | apply below_drew1 | refine below_set ?_ GE183.out) | exact HB.out))) : w.heap.size ≤ gb184)); have n5_ := Aside0.mk ((by rw [hg]; exact Nat.ne_of_lt (blk_lt (g := gb183) (o := .cells #[.slice A0_0 l0_0.length c0_0, .slice A0_1 l0_1.length c0_1, .int .i64 a0_2, .int .i64 a0_3] 26 (0, 0)) (by (with_reducible repeat (first | refine blk_drewN ?_ _ | refine blk_drew ?_ | refine blk_alloc ?_ _)); exact BK183.out)) : gb183 ≠ gb184)); have n6_ := Aside0.mk ((by rw [hg]; exact Nat.ne_of_gt (blk_lt (g := gb183) (o := .cells #[.slice A0_0 l0_0.length c0_0, .slice A0_1 l0_1.length c0_1, .int .i64 a0_2, .int .i64 a0_3] 26 (0, 0)) (by (with_reducible repeat (first | refine blk_drewN ?_ _ | refine blk_drew ?_ | refine blk_alloc ?_ _)); exact BK183.out)) : gb184 ≠ gb183)); clear BK183; clear HB; have BK183 := n0_; have HB := n1_; have BK184 := n2_; have GW184 := n3_; have GE184 := n4_; have NB183_184 := n5_; have NB184_183 := n6_; clear n0_ n1_ n2_ n3_ n4_ n5_ n6_; clear hb hbox hg; have hnb21 := NB183_184.out; have hnc21 := NB184_183.out; have hcz22_0 : w20.cell? ⟨gb183, 0, none⟩ = some (.slice A0_0 l0_0.length c0_0) := (blk_cell BK183.out 0).trans rfl; have hcz22_1 : w20.cell? ⟨gb183, 1, none⟩ = some (.slice A0_1 l0_1.length c0_1) := (blk_cell BK183.out 1).trans rfl; have hcz22_2 : w20.cell? ⟨gb183, 2, none⟩ = some (.int .i64 a0_2) := (blk_cell BK183.out 2).trans rfl; have hcz22_3 : w20.cell? ⟨gb183, 3, none⟩ = some (.int .i64 a0_3) := (blk_cell BK183.out 3).trans rfl; have hfz22_0 := blk_frozen BK183.out 0; have hfz22_1 := blk_frozen BK183.out 1; have hfz22_2 := blk_frozen BK183.out 2; have hfz22_3 := blk_frozen BK183.out 3; have hcz23_0 : w20.cell? ⟨gb184, 0, none⟩ = some (.slice A1_0 l1_0.length c1_0) := (blk_cell BK184.out 0).trans rfl; have hcz23_1 : w20.cell? ⟨gb184, 1, none⟩ = some (.slice A1_1 l1_1.length c1_1) := (blk_cell BK184.out 1).trans rfl; have hcz23_2 : w20.cell? ⟨gb184, 2, none⟩ = some (.int .i64 a1_2) := (blk_cell BK184.out 2).trans rfl; have hcz23_3 : w20.cell? ⟨gb184, 3, none⟩ = some (.int .i64 a1_3) := (blk_cell BK184.out 3).trans rfl; have hfz23_0 := blk_frozen BK184.out 0; have hfz23_1 := blk_frozen BK184.out 1; have hfz23_2 := blk_frozen BK184.out 2; have hfz23_3 := blk_frozen BK184.out 3) | ((with_reducible refine gate_callee (f := 15) rfl ?_); refine goesL_ (some 9) rfl rfl Try.func15 (by kernel_rfl) rfl #[.slice A0_0 l0_0.length c0_0, .slice A1_0 l1_0.length c1_0] rfl (by (try simp only [List.map_toArray, List.map_cons, List.map_nil]); first | done | rfl | (simp only [List.length_drop, List.length_take]; rfl)) ?_; (with_reducible refine (laws_eqIntS.calls k _ _ l0_0 _ _ l1_0 true _ ?side1 ?side2 ?side3 ?side4 A3.out).mono ?_); (case side1 => repeat (first | exact (Kd.C_below HR0_0.out HB.out) | (with_reducible refine Kd.C_alloc ?_ _) | (with_reducible refine Kd.C_drewN ?_ _) | (with_reducible refine Kd.C_drew ?_))); (case side2 => exact HC0_0.out); (case side3 => repeat (first | exact (Kd.C_below HR1_0.out HB.out) | (with_reducible refine Kd.C_alloc ?_ _) | (with_reducible refine Kd.C_drewN ?_ _) | (with_reducible refine Kd.C_drew ?_))); (case side4 => exact HC1_0.out); rintro e w' ⟨rfl, ⟨nd, rfl⟩⟩; refine ⟨_, rfl, ?_⟩) | ((with_reducible refine gate_callee (f := 15) rfl ?_); refine goesL_ (some 15) rfl rfl Try.func15 (by kernel_rfl) rfl #[.slice A0_1 l0_1.length c0_1, .slice A1_1 l1_1.length c1_1] rfl (by (try simp only [List.map_toArray, List.map_cons, List.map_nil]); first | done | rfl | (simp only [List.length_drop, List.length_take]; rfl)) ?_; (with_reducible refine (laws_eqIntS.calls k _ _ l0_1 _ _ l1_1 true _ ?side1 ?side2 ?side3 ?side4 A5.out).mono ?_); (case side1 => repeat (first | exact (Kd.C_below HR0_1.out (by repeat (first | (with_reducible first | exact HB.out | apply below_alloc | apply pw_below_drewN | apply below_drew1 | refine below_set ?_ GE183.out | refine below_set ?_ GE184.out) | exact HB.out))) | (with_reducible refine Kd.C_alloc ?_ _) | (with_reducible refine Kd.C_drewN ?_ _) | (with_reducible refine Kd.C_drew ?_))); (case side2 => exact HC0_1.out); (case side3 => repeat (first | exact (Kd.C_below HR1_1.out (by repeat (first | (with_reducible first | exact HB.out | apply below_alloc | apply pw_below_drewN | apply below_drew1 | refine below_set ?_ GE183.out | refine below_set ?_ GE184.out) | exact HB.out))) | (with_reducible refine Kd.C_alloc ?_ _) | (with_reducible refine Kd.C_drewN ?_ _) | (with_reducible refine Kd.C_drew ?_))); (case side4 => exact HC1_1.out); rintro e w' ⟨rfl, ⟨nd, rfl⟩⟩; refine ⟨_, rfl, ?_⟩))
        go_ret
        exact ⟨by first | rfl | (simp [errW_none, errW_some] <;> rfl) | (simp [*, errW_none, errW_some] <;> rfl), by repeat (first | (with_reducible first | exact HB.out | apply below_alloc | apply pw_below_drewN | apply below_drew1 | refine below_set ?_ GE183.out | refine below_set ?_ GE184.out) | exact HB.out)⟩
    · replace c6 := Bool.eq_false_iff.mpr c6
      subst c6
      have H1 : (some false) = some r := by rw [if_neg (show ¬ (false = true) by decide)] at H; exact H
      clear H
      have H := H1
      clear H1
      obtain rfl := Option.some.inj H
      go_enter Try.func14, Try.ntmps14
      go_wp2_with (first | ((with_reducible refine gate_dst (N := 2) rfl ?_); refine box_event ?hg (N := 2) ?hd (cs := #[.slice A0_0 l0_0.length c0_0, .slice A0_1 l0_1.length c0_1, .int .i64 a0_2, .int .i64 a0_3]) (t := 26) ?hr ?_; (case hd => rfl); (case hg => rfl); (case hr => first | (go_simp; done) | (go_simp; rfl)); intro gb183 hg w24 hbox hb; have n0_ := Aside0.mk (below_step (by repeat (first | (with_reducible first | exact HB.out | apply below_alloc | apply pw_below_drewN | apply below_drew1) | exact HB.out)) hb); have n1_ := Aside0.mk (hbox); have n2_ := Aside0.mk ((by rw [hg]; exact (below_size (by repeat (first | (with_reducible first | exact HB.out | apply below_alloc | apply pw_below_drewN | apply below_drew1) | exact HB.out))) : w.heap.size ≤ gb183)); have n3_ := Aside0.mk ((by rw [hg]; exact (below_size (by repeat (first | (with_reducible first | exact HB.out | apply below_alloc | apply pw_below_drewN | apply below_drew1) | exact HB.out))) : w.heap.size ≤ gb183)); clear HB; have HB := n0_; have BK183 := n1_; have GW183 := n2_; have GE183 := n3_; clear n0_ n1_ n2_ n3_; clear hb hbox hg) | ((with_reducible refine gate_dst (N := 3) rfl ?_); refine box_event ?hg (N := 3) ?hd (cs := #[.slice A1_0 l1_0.length c1_0, .slice A1_1 l1_1.length c1_1, .int .i64 a1_2, .int .i64 a1_3]) (t := 26) ?hr ?_; (case hd => rfl); (case hg => rfl); (case hr => first | (go_simp; done) | (go_simp; rfl)); intro gb184 hg w25 hbox hb; have n0_ := Aside0.mk (blk_below (g := gb183) (o := .cells #[.slice A0_0 l0_0.length c0_0, .slice A0_1 l0_1.length c0_1, .int .i64 a0_2, .int .i64 a0_3] 26 (0, 0)) (by (with_reducible repeat (first | refine blk_drewN ?_ _ | refine blk_drew ?_ | refine blk_alloc ?_ _)); exact BK183.out) hb); have n1_ := Aside0.mk (below_step (by repeat (first | (with_reducible first | exact HB.out | apply below_alloc | apply pw_below_drewN | apply below_drew1 | refine below_set ?_ GE183.out) | exact HB.out)) hb); have n2_ := Aside0.mk (hbox); have n3_ := Aside0.mk ((by rw [hg]; exact (below_size (by repeat (first | (with_reducible first | exact HB.out | apply below_alloc | apply pw_below_drewN | apply below_drew1 | refine below_set ?_ GE183.out) | exact HB.out))) : w.heap.size ≤ gb184)); have n4_ := Aside0.mk ((by rw [hg]; exact (below_size (by repeat (first | (with_reducible first | exact HB.out | apply below_alloc | apply pw_below_drewN | apply below_drew1 | refine below_set ?_ GE183.out) | exact HB.out))) : w.heap.size ≤ gb184)); have n5_ := Aside0.mk ((by rw [hg]; exact Nat.ne_of_lt (blk_lt (g := gb183) (o := .cells #[.slice A0_0 l0_0.length c0_0, .slice A0_1 l0_1.length c0_1, .int .i64 a0_2, .int .i64 a0_3] 26 (0, 0)) (by (with_reducible repeat (first | refine blk_drewN ?_ _ | refine blk_drew ?_ | refine blk_alloc ?_ _)); exact BK183.out)) : gb183 ≠ gb184)); have n6_ := Aside0.mk ((by rw [hg]; exact Nat.ne_of_gt (blk_lt (g := gb183) (o := .cells #[.slice A0_0 l0_0.length c0_0, .slice A0_1 l0_1.length c0_1, .int .i64 a0_2, .int .i64 a0_3] 26 (0, 0)) (by (with_reducible repeat (first | refine blk_drewN ?_ _ | refine blk_drew ?_ | refine blk_alloc ?_ _)); exact BK183.out)) : gb184 ≠ gb183)); clear BK183; clear HB; have BK183 := n0_; have HB := n1_; have BK184 := n2_; have GW184 := n3_; have GE184 := n4_; have NB183_184 := n5_; have NB184_183 := n6_; clear n0_ n1_ n2_ n3_ n4_ n5_ n6_; clear hb hbox hg; have hnb26 := NB183_184.out; have hnc26 := NB184_183.out; have hcz27_0 : w25.cell? ⟨gb183, 0, none⟩ = some (.slice A0_0 l0_0.length c0_0) := (blk_cell BK183.out 0).trans rfl; have hcz27_1 : w25.cell? ⟨gb183, 1, none⟩ = some (.slice A0_1 l0_1.length c0_1) := (blk_cell BK183.out 1).trans rfl; have hcz27_2 : w25.cell? ⟨gb183, 2, none⟩ = some (.int .i64 a0_2) := (blk_cell BK183.out 2).trans rfl; have hcz27_3 : w25.cell? ⟨gb183, 3, none⟩ = some (.int .i64 a0_3) := (blk_cell BK183.out 3).trans rfl; have hfz27_0 := blk_frozen BK183.out 0; have hfz27_1 := blk_frozen BK183.out 1; have hfz27_2 := blk_frozen BK183.out 2; have hfz27_3 := blk_frozen BK183.out 3; have hcz28_0 : w25.cell? ⟨gb184, 0, none⟩ = some (.slice A1_0 l1_0.length c1_0) := (blk_cell BK184.out 0).trans rfl; have hcz28_1 : w25.cell? ⟨gb184, 1, none⟩ = some (.slice A1_1 l1_1.length c1_1) := (blk_cell BK184.out 1).trans rfl; have hcz28_2 : w25.cell? ⟨gb184, 2, none⟩ = some (.int .i64 a1_2) := (blk_cell BK184.out 2).trans rfl; have hcz28_3 : w25.cell? ⟨gb184, 3, none⟩ = some (.int .i64 a1_3) := (blk_cell BK184.out 3).trans rfl; have hfz28_0 := blk_frozen BK184.out 0; have hfz28_1 := blk_frozen BK184.out 1; have hfz28_2 := blk_frozen BK184.out 2; have hfz28_3 := blk_frozen BK184.out 3) | ((with_reducible refine gate_callee (f := 15) rfl ?_); refine goesL_ (some 9) rfl rfl Try.func15 (by kernel_rfl) rfl #[.slice A0_0 l0_0.length c0_0, .slice A1_0 l1_0.length c1_0] rfl (by (try simp only [List.map_toArray, List.map_cons, List.map_nil]); first | done | rfl | (simp only [List.length_drop, List.length_take]; rfl)) ?_; (with_reducible refine (laws_eqIntS.calls k _ _ l0_0 _ _ l1_0 true _ ?side1 ?side2 ?side3 ?side4 A3.out).mono ?_); (case side1 => repeat (first | exact (Kd.C_below HR0_0.out HB.out) | (with_reducible refine Kd.C_alloc ?_ _) | (with_reducible refine Kd.C_drewN ?_ _) | (with_reducible refine Kd.C_drew ?_))); (case side2 => exact HC0_0.out); (case side3 => repeat (first | exact (Kd.C_below HR1_0.out HB.out) | (with_reducible refine Kd.C_alloc ?_ _) | (with_reducible refine Kd.C_drewN ?_ _) | (with_reducible refine Kd.C_drew ?_))); (case side4 => exact HC1_0.out); rintro e w' ⟨rfl, ⟨nd, rfl⟩⟩; refine ⟨_, rfl, ?_⟩) | ((with_reducible refine gate_callee (f := 15) rfl ?_); refine goesL_ (some 15) rfl rfl Try.func15 (by kernel_rfl) rfl #[.slice A0_1 l0_1.length c0_1, .slice A1_1 l1_1.length c1_1] rfl (by (try simp only [List.map_toArray, List.map_cons, List.map_nil]); first | done | rfl | (simp only [List.length_drop, List.length_take]; rfl)) ?_; (with_reducible refine (laws_eqIntS.calls k _ _ l0_1 _ _ l1_1 false _ ?side1 ?side2 ?side3 ?side4 A5.out).mono ?_); (case side1 => repeat (first | exact (Kd.C_below HR0_1.out (by repeat (first | (with_reducible first | exact HB.out | apply below_alloc | apply pw_below_drewN | apply below_drew1 | refine below_set ?_ GE183.out | refine below_set ?_ GE184.out) | exact HB.out))) | (with_reducible refine Kd.C_alloc ?_ _) | (with_reducible refine Kd.C_drewN ?_ _) | (with_reducible refine Kd.C_drew ?_))); (case side2 => exact HC0_1.out); (case side3 => repeat (first | exact (Kd.C_below HR1_1.out (by repeat (first | (with_reducible first | exact HB.out | apply below_alloc | apply pw_below_drewN | apply below_drew1 | refine below_set ?_ GE183.out | refine below_set ?_ GE184.out) | exact HB.out))) | (with_reducible refine Kd.C_alloc ?_ _) | (with_reducible refine Kd.C_drewN ?_ _) | (with_reducible refine Kd.C_drew ?_))); (case side4 => exact HC1_1.out); rintro e w' ⟨rfl, ⟨nd, rfl⟩⟩; refine ⟨_, rfl, ?_⟩))
      go_ret
      exact ⟨by first | rfl | (simp [errW_none, errW_some] <;> rfl) | (simp [*, errW_none, errW_some] <;> rfl), by repeat (first | (with_reducible first | exact HB.out | apply below_alloc | apply pw_below_drewN | apply below_drew1 | refine below_set ?_ GE183.out | refine below_set ?_ GE184.out) | exact HB.out)⟩
  · replace c4 := Bool.eq_false_iff.mpr c4
    subst c4
    have H1 : (some false) = some r := by rw [if_neg (show ¬ (false = true) by decide)] at H; exact H
    clear H
    have H := H1
    clear H1
    obtain rfl := Option.some.inj H
    go_enter Try.func14, Try.ntmps14
    go_wp2_with (first | ((with_reducible refine gate_dst (N := 2) rfl ?_); refine box_event ?hg (N := 2) ?hd (cs := #[.slice A0_0 l0_0.length c0_0, .slice A0_1 l0_1.length c0_1, .int .i64 a0_2, .int .i64 a0_3]) (t := 26) ?hr ?_; (case hd => rfl); (case hg => rfl); (case hr => first | (go_simp; done) | (go_simp; rfl)); intro gb183 hg w29 hbox hb; have n0_ := Aside0.mk (below_step (by repeat (first | (with_reducible first | exact HB.out | apply below_alloc | apply pw_below_drewN | apply below_drew1) | exact HB.out)) hb); have n1_ := Aside0.mk (hbox); have n2_ := Aside0.mk ((by rw [hg]; exact (below_size (by repeat (first | (with_reducible first | exact HB.out | apply below_alloc | apply pw_below_drewN | apply below_drew1) | exact HB.out))) : w.heap.size ≤ gb183)); have n3_ := Aside0.mk ((by rw [hg]; exact (below_size (by repeat (first | (with_reducible first | exact HB.out | apply below_alloc | apply pw_below_drewN | apply below_drew1) | exact HB.out))) : w.heap.size ≤ gb183)); clear HB; have HB := n0_; have BK183 := n1_; have GW183 := n2_; have GE183 := n3_; clear n0_ n1_ n2_ n3_; clear hb hbox hg) | ((with_reducible refine gate_dst (N := 3) rfl ?_); refine box_event ?hg (N := 3) ?hd (cs := #[.slice A1_0 l1_0.length c1_0, .slice A1_1 l1_1.length c1_1, .int .i64 a1_2, .int .i64 a1_3]) (t := 26) ?hr ?_; (case hd => rfl); (case hg => rfl); (case hr => first | (go_simp; done) | (go_simp; rfl)); intro gb184 hg w30 hbox hb; have n0_ := Aside0.mk (blk_below (g := gb183) (o := .cells #[.slice A0_0 l0_0.length c0_0, .slice A0_1 l0_1.length c0_1, .int .i64 a0_2, .int .i64 a0_3] 26 (0, 0)) (by (with_reducible repeat (first | refine blk_drewN ?_ _ | refine blk_drew ?_ | refine blk_alloc ?_ _)); exact BK183.out) hb); have n1_ := Aside0.mk (below_step (by repeat (first | (with_reducible first | exact HB.out | apply below_alloc | apply pw_below_drewN | apply below_drew1 | refine below_set ?_ GE183.out) | exact HB.out)) hb); have n2_ := Aside0.mk (hbox); have n3_ := Aside0.mk ((by rw [hg]; exact (below_size (by repeat (first | (with_reducible first | exact HB.out | apply below_alloc | apply pw_below_drewN | apply below_drew1 | refine below_set ?_ GE183.out) | exact HB.out))) : w.heap.size ≤ gb184)); have n4_ := Aside0.mk ((by rw [hg]; exact (below_size (by repeat (first | (with_reducible first | exact HB.out | apply below_alloc | apply pw_below_drewN | apply below_drew1 | refine below_set ?_ GE183.out) | exact HB.out))) : w.heap.size ≤ gb184)); have n5_ := Aside0.mk ((by rw [hg]; exact Nat.ne_of_lt (blk_lt (g := gb183) (o := .cells #[.slice A0_0 l0_0.length c0_0, .slice A0_1 l0_1.length c0_1, .int .i64 a0_2, .int .i64 a0_3] 26 (0, 0)) (by (with_reducible repeat (first | refine blk_drewN ?_ _ | refine blk_drew ?_ | refine blk_alloc ?_ _)); exact BK183.out)) : gb183 ≠ gb184)); have n6_ := Aside0.mk ((by rw [hg]; exact Nat.ne_of_gt (blk_lt (g := gb183) (o := .cells #[.slice A0_0 l0_0.length c0_0, .slice A0_1 l0_1.length c0_1, .int .i64 a0_2, .int .i64 a0_3] 26 (0, 0)) (by (with_reducible repeat (first | refine blk_drewN ?_ _ | refine blk_drew ?_ | refine blk_alloc ?_ _)); exact BK183.out)) : gb184 ≠ gb183)); clear BK183; clear HB; have BK183 := n0_; have HB := n1_; have BK184 := n2_; have GW184 := n3_; have GE184 := n4_; have NB183_184 := n5_; have NB184_183 := n6_; clear n0_ n1_ n2_ n3_ n4_ n5_ n6_; clear hb hbox hg; have hnb31 := NB183_184.out; have hnc31 := NB184_183.out; have hcz32_0 : w30.cell? ⟨gb183, 0, none⟩ = some (.slice A0_0 l0_0.length c0_0) := (blk_cell BK183.out 0).trans rfl; have hcz32_1 : w30.cell? ⟨gb183, 1, none⟩ = some (.slice A0_1 l0_1.length c0_1) := (blk_cell BK183.out 1).trans rfl; have hcz32_2 : w30.cell? ⟨gb183, 2, none⟩ = some (.int .i64 a0_2) := (blk_cell BK183.out 2).trans rfl; have hcz32_3 : w30.cell? ⟨gb183, 3, none⟩ = some (.int .i64 a0_3) := (blk_cell BK183.out 3).trans rfl; have hfz32_0 := blk_frozen BK183.out 0; have hfz32_1 := blk_frozen BK183.out 1; have hfz32_2 := blk_frozen BK183.out 2; have hfz32_3 := blk_frozen BK183.out 3; have hcz33_0 : w30.cell? ⟨gb184, 0, none⟩ = some (.slice A1_0 l1_0.length c1_0) := (blk_cell BK184.out 0).trans rfl; have hcz33_1 : w30.cell? ⟨gb184, 1, none⟩ = some (.slice A1_1 l1_1.length c1_1) := (blk_cell BK184.out 1).trans rfl; have hcz33_2 : w30.cell? ⟨gb184, 2, none⟩ = some (.int .i64 a1_2) := (blk_cell BK184.out 2).trans rfl; have hcz33_3 : w30.cell? ⟨gb184, 3, none⟩ = some (.int .i64 a1_3) := (blk_cell BK184.out 3).trans rfl; have hfz33_0 := blk_frozen BK184.out 0; have hfz33_1 := blk_frozen BK184.out 1; have hfz33_2 := blk_frozen BK184.out 2; have hfz33_3 := blk_frozen BK184.out 3) | ((with_reducible refine gate_callee (f := 15) rfl ?_); refine goesL_ (some 9) rfl rfl Try.func15 (by kernel_rfl) rfl #[.slice A0_0 l0_0.length c0_0, .slice A1_0 l1_0.length c1_0] rfl (by (try simp only [List.map_toArray, List.map_cons, List.map_nil]); first | done | rfl | (simp only [List.length_drop, List.length_take]; rfl)) ?_; (with_reducible refine (laws_eqIntS.calls k _ _ l0_0 _ _ l1_0 false _ ?side1 ?side2 ?side3 ?side4 A3.out).mono ?_); (case side1 => repeat (first | exact (Kd.C_below HR0_0.out HB.out) | (with_reducible refine Kd.C_alloc ?_ _) | (with_reducible refine Kd.C_drewN ?_ _) | (with_reducible refine Kd.C_drew ?_))); (case side2 => exact HC0_0.out); (case side3 => repeat (first | exact (Kd.C_below HR1_0.out HB.out) | (with_reducible refine Kd.C_alloc ?_ _) | (with_reducible refine Kd.C_drewN ?_ _) | (with_reducible refine Kd.C_drew ?_))); (case side4 => exact HC1_0.out); rintro e w' ⟨rfl, ⟨nd, rfl⟩⟩; refine ⟨_, rfl, ?_⟩))
    go_ret
    exact ⟨by first | rfl | (simp [errW_none, errW_some] <;> rfl) | (simp [*, errW_none, errW_some] <;> rfl), by repeat (first | (with_reducible first | exact HB.out | apply below_alloc | apply pw_below_drewN | apply below_drew1 | refine below_set ?_ GE183.out | refine below_set ?_ GE184.out) | exact HB.out)⟩

/-! ### laws_markIntS: function 17 -/
def laws_markIntS.l0 : Nat → List Int → Int → Int → Option (Int × List Int)
  | 0, _, _, _ => none
  | k + 1, x0, x1, x5 => if x5 < (x0.length : Int) then (if 0 ≤ x5 then (laws_markIntS.l0 k (x0.set (x5 : Int).toNat x1) (wrap64 (x1 + 1)) (wrap64 (x5 + 1))) else (none)) else (some (x1, x0))
def laws_markIntS.f (k : Nat) (l0 : List Int) (a1 : Int) : Option (Int × List Int) := laws_markIntS.l0 k l0 a1 0
theorem laws_markIntS.mono_l : ∀ k, (∀ y0 y1 y2, LeO (laws_markIntS.l0 k y0 y1 y2) (laws_markIntS.l0 (k + 1) y0 y1 y2))
  | 0 => fun _ _ _ r h => by simp [laws_markIntS.l0] at h
  | k + 1 => by
    have ih0 := laws_markIntS.mono_l k
    · intro y0 y1 y2
      unfold laws_markIntS.l0
      repeat' first
      | (with_reducible exact ih0 _ _ _)
      | (with_reducible exact LeO.refl _)
      | (with_reducible exact LeO.none _)
      | (with_reducible refine LeO.ite ?_ ?_)
      | (with_reducible refine LeO.bind ?_ (fun _ => ?_))
      | exact ih0 _ _ _
      | exact LeO.none _
      | refine LeO.ite ?_ ?_
      | refine LeO.bind ?_ (fun _ => ?_)
theorem laws_markIntS.mono : ∀ a0 a1 k, LeO (laws_markIntS.f k a0 a1) (laws_markIntS.f (k + 1) a0 a1) := by
  intro a0 a1 k
  have ih0 := laws_markIntS.mono_l k
  unfold laws_markIntS.f
  repeat' first
      | (with_reducible exact ih0 _ _ _)
      | (with_reducible exact LeO.refl _)
      | (with_reducible exact LeO.none _)
      | (with_reducible refine LeO.ite ?_ ?_)
      | (with_reducible refine LeO.bind ?_ (fun _ => ?_))
      | exact ih0 _ _ _
      | exact LeO.none _
      | refine LeO.ite ?_ ?_
      | refine LeO.bind ?_ (fun _ => ?_)
set_option maxHeartbeats 8000000 in
set_option maxRecDepth 100000 in
theorem laws_markIntS.calls (k : Nat) (P0_ : Nat → Prop) (u9000_ : Value) (l0 : List Int) (a1 : Int) (r1 : Int) (r2 : List Int) (w0 w : World) (hB : Below w0.heap.size w0 w) (ho0 : Kd.R (Kd.int .i64) 3 w w0.heap.size P0_ u9000_ l0) (h : laws_markIntS.f k l0 a1 = some (r1, r2)) :
    Calls Try.prog 17 #[u9000_, .int .i64 a1] w fun e w' => e = .returned (.int .i64 r1) ∧ Kd.R (Kd.int .i64) 3 w' w0.heap.size (fun k_ => (P0_ k_ ∨ w.heap.size ≤ k_)) u9000_ r2 ∧ Below w0.heap.size w0 w' ∧ Kept w w' (fun k_ => P0_ k_) := by
  have HO0 := Aside0.mk (show Kd.R (Kd.int .i64) 3 w w0.heap.size (fun k_ => (P0_ k_ ∨ w.heap.size ≤ k_)) u9000_ l0 from Kd.R_mono ho0 (fun k_ hk => (.inl hk)))
  have HK := Aside0.mk (Kept.refl w (fun k_ => P0_ k_))
  have HW0 := Aside0.mk hB.size
  have HB := Aside0.mk hB
  clear hB
  have H : (laws_markIntS.l0 k l0 a1 0) = some (r1, r2) := h
  clear h
  have H' := Aside0.mk H
  clear H
  go_enter Try.func17, Try.ntmps17
  go_wp2
  go_loopg [1, 5] k (fun kq v1 v5 w' => ∃ (x0_1 : List Int) (x1_1 : Int) (x5_1 : Int), v1 = .int .i64 x1_1 ∧ v5 = .int .i64 x5_1 ∧ Aside0 (laws_markIntS.l0 kq x0_1 x1_1 x5_1 = some (r1, r2)) ∧ Aside0 (kq ≤ k) ∧ Aside0 (Kd.R (Kd.int .i64) 3 w' w0.heap.size (fun k_ => (P0_ k_ ∨ w.heap.size ≤ k_)) u9000_ x0_1) ∧ Aside0 (Kept w w' (fun k_ => P0_ k_)) ∧ Aside0 (Below w0.heap.size w0 w'))
  case atStart => exact ⟨(l0), (a1), (0), (by first | rfl | (simp; done) | (simp [*]; done)), (by first | rfl | (simp; done) | (simp [*]; done)), H', ⟨Nat.le_refl _⟩, ⟨by (with_reducible repeat (first | apply Kd.R_alloc | apply Kd.R_drewN | apply Kd.R_drew)); exact HO0.out⟩, ⟨by repeat (first | (with_reducible first | exact HK.out | apply Kept.alloc | apply Kept.drewN | apply Kept.drew) | exact HK.out)⟩, ⟨by repeat (first | (with_reducible first | exact HB.out | apply below_alloc | apply pw_below_drewN | apply below_drew1) | exact HB.out)⟩⟩
  case round =>
    clear H'
    try clear c1
    try clear p2
    obtain ⟨x0_1, x1_1, x5_1, rfl, rfl, HA, HK1, HO_0, HK, HB⟩ := hrel
    cases gk with
    | zero => exact absurd HA.out (by simp [laws_markIntS.l0])
    | succ k1 =>
      have H := HA.out
      clear HA
      simp only [laws_markIntS.l0] at H
      by_cases c3 : x5_1 < (x0_1.length : Int)
      · rw [if_pos c3] at H
        have c3b0 : decide (x5_1 < (x0_1.length : Int)) = true := decide_eq_true c3
        clear c3
        by_cases c4 : 0 ≤ x5_1
        · rw [if_pos c4] at H
          have c4b0 : decide (0 ≤ x5_1) = true := decide_eq_true c4
          clear c4
          obtain ⟨y187, hy187⟩ : ∃ y_ : List Int, y_ = (x0_1.set (x5_1 : Int).toNat x1_1) := ⟨_, rfl⟩
          replace H : (laws_markIntS.l0 k1 y187 (wrap64 (x1_1 + 1)) (wrap64 (x5_1 + 1))) = some (r1, r2) := by first | (rw [hy187]; with_reducible exact H) | (have H2_ := (Option.bind_some _ _).symm.trans H; rw [hy187]; with_reducible exact H2_) | (have H2_ := (Option.bind_some _ _).symm.trans H; with_reducible exact H2_) | with_reducible exact H | (rw [hy187]; exact H) | exact H
          have Ny187 := Aside0.mk hy187
          clear hy187
          have H' := Aside0.mk H
          clear H
          obtain ⟨Ao6, co6, eo6⟩ := Kd.R_slice HO_0.out
          subst eo6
          have p5 : 0 ≤ (x5_1 : Int) := of_decide_eq_true (by first | (with_reducible assumption) | assumption)
          have q5 : (x5_1 : Int) < ((x0_1.length : Int) : Int) := of_decide_eq_true (by first | (with_reducible assumption) | assumption)
          obtain ⟨go5, co5, eo5, gb5, gl5, cl5, HG5⟩ := Kd.R_form HO_0.out (by omega)
          (first | cases eo5 | (injection eo5 with ea_ en_ ec_; (first | subst ea_ | (injection ea_ with ea_; subst ea_)); subst ec_; clear en_))
          have GB5 := Aside0.mk gb5
          have GG5 := Aside0.mk HG5
          clear gb5 gl5 HG5
          have HMgo5 := Aside0.mk (show (P0_ go5 ∨ w.heap.size ≤ go5) from (HO_0.out.1 _ rfl))
          obtain ⟨hx5_0, hf5_0⟩ := Kd.R_celln 0 HO_0.out (x5_1 : Int) p5 q5
          replace p5 := eq_true p5
          replace q5 := eq_true q5
          have HP7 := Kd.R_putg HO_0.out (x5_1 : Int) x1_1
          go_wp2_with (first | ((with_reducible refine gate_store (t := 3) (p := 15) rfl ?_); refine store_event (t := 3) (p := 15) (v := ?vo_w8) (w1 := (wr.setCell ⟨go5, (x5_1 : Int).toNat, none⟩ (.int .i64 x1_1))) ?hg ?ho ?hn ?hr ?_; (case ho => rfl); (case hg => rfl); (case hn => rfl); (case hr => first | (go_simp; done) | (go_simp; rfl)); intro w8 hw; have hg : wr.grownBy w8 (some go5) := (by rw [hw]; exact HP7.2); have hp_ : Kd.R (Kd.int .i64) 3 w8 w0.heap.size (fun k_ => (P0_ k_ ∨ w.heap.size ≤ k_)) (.slice (some ⟨go5, 0, none⟩) x0_1.length co6) y187 := (by rw [hw, Ny187.out]; exact HP7.1); clear HP7; have n0_ := Aside0.mk (hp_); have n1_ := Aside0.mk ((by rw [hw]; exact below_set (HB.out) GB5.out : Below w0.heap.size w0 w8)); have n2_ := Aside0.mk (Kept.of_grown (S := (fun k_ => P0_ k_)) hg (by repeat (first | (with_reducible first | exact HK.out | apply Kept.alloc | apply Kept.drewN | apply Kept.drew) | exact HK.out)) (fun k_ e_ => (HO_0.out.1 k_ e_))); clear HO_0; clear HB; clear HK; have HO_0 := n0_; have HB := n1_; have HK := n2_; clear n0_ n1_ n2_; clear hg hw hp_))
          go_roundg k1
          case measure => have := HK1.out; omega
          case rel => exact ⟨(y187), (wrap64 (x1_1 + 1)), (wrap64 (x5_1 + 1)), (by first | rfl | (simp; done) | (simp [*]; done)), (by first | rfl | (simp; done) | (simp [*]; done)), H', ⟨by have := HK1.out; omega⟩, ⟨by (with_reducible repeat (first | apply Kd.R_alloc | apply Kd.R_drewN | apply Kd.R_drew)); exact HO_0.out⟩, ⟨by repeat (first | (with_reducible first | exact HK.out | apply Kept.alloc | apply Kept.drewN | apply Kept.drew) | exact HK.out)⟩, ⟨by repeat (first | (with_reducible first | exact HB.out | apply below_alloc | apply pw_below_drewN | apply below_drew1) | exact HB.out)⟩⟩
        · rw [if_neg c4] at H
          exact absurd H (by simp)
      · rw [if_neg c3] at H
        have c3b0 : decide (x5_1 < (x0_1.length : Int)) = false := decide_eq_false c3
        clear c3
        simp only [Option.some.injEq, Prod.mk.injEq] at H
        obtain ⟨rfl, rfl⟩ := H
        obtain ⟨Ao9, co9, eo9⟩ := Kd.R_slice HO_0.out
        subst eo9
        go_wp2
        go_ret
        exact ⟨by first | rfl | (simp [errW_none, errW_some] <;> rfl) | (simp [*, errW_none, errW_some] <;> rfl), by (with_reducible repeat (first | apply Kd.R_alloc | apply Kd.R_drewN | apply Kd.R_drew)); exact HO_0.out, by repeat (first | (with_reducible first | exact HB.out | apply below_alloc | apply pw_below_drewN | apply below_drew1) | exact HB.out), by repeat (first | (with_reducible first | exact HK.out | apply Kept.alloc | apply Kept.drewN | apply Kept.drew) | exact HK.out)⟩

end Go.Proofs.Ytpoblnigmfbnfac.PFnExactSpread
