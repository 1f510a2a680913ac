-- Printed out of the translation, hand-written contracts beside it; checked by the kernel alone.
import Derived.Test.YtcpemdedmepfeaaPFnRoutedx0
import Derived.Test.YtcpemdedmepfeaaPFnRoutedx2
import Derived.Test.YtcpemdedmepfeaaPFnRoutedx3
import Derived.Test.YtcpemdedmepfeaaPFnRoutedx4
namespace Go.Proofs.Ytcpemdedmepfeaa.PFnRouted
open Go.RowKit Go.Proofs.YtcpemdedmepfeaaW.PrintWords Go.Proofs.YtcpemdedmepfeaaW.PrintLast Go.Proofs.YtcpemdedmepfeaaW.PrintMore
attribute [local go_sem] max2_int min2_int max_two min_two max_three min_three max_four min_four   -- for this text's walks alone
set_option linter.unusedVariables false
set_option linter.unusedSimpArgs false
theorem Ω5_6 : type_of% @Aside0.mk := @Aside0.mk
theorem Ω6_6 : type_of% @below_alloc := @below_alloc
theorem Ω7_6 : type_of% @pw_below_drewN := @pw_below_drewN
theorem Ω8_6 : type_of% @below_drew1 := @below_drew1
theorem ΩS_6 : type_of% @of_decide_eq_true := @of_decide_eq_true

/-! ### slices_Clone_int_int: function 80 -/
def slices_Clone_int_int.f (l0 : List Int) : Option (List Int) := if l0.length < 17592186044416 then some l0 else none
set_option maxHeartbeats 8000000 in
set_option maxRecDepth 100000 in
theorem slices_Clone_int_int.calls (A0 : Option Addr) (c0 : Nat) (l0 : List Int) (r : List Int) (w : World) (hr0 : Kd.C (Kd.int .i64) w A0 l0.length l0) (hc0 : l0.length ≤ c0) (h : slices_Clone_int_int.f l0 = some r) :
  Calls Try.prog 80 #[.slice A0 l0.length c0] w fun e w' => ∃ v0_ : Value, e = .returned (v0_) ∧ Kd.R (Kd.int .i64) 3 w' w.heap.size (fun _ => True) v0_ r ∧ Below w.heap.size w w' := by
 have h1 : l0.length < 17592186044416 ∧ l0 = r := by
  unfold slices_Clone_int_int.f at h
  split at h
  ·next hl => exact ⟨hl, Option.some.inj h⟩
  ·cases h
 obtain ⟨hlen, rfl⟩ := h1
 have HR0 := Ω5_6 hr0
 have HC0 := Ω5_6 hc0
 have HL := Ω5_6 hlen
 clear h hlen hr0 hc0
 have HB := Ω5_6 (Below.refl w.heap.size w)
 have hnil := fun (w : World) (a : Option Addr) (n c n' c' : Nat) => Lib.run_eql_slice_nil (P := Try.prog) w 22 3 a n c n' c' Try.underlying22
 rcases A0 with _ | a0
 ·have hl : l0 = [] := by
   rcases l0 with _ | ⟨x, xs⟩
   ·rfl
   ·obtain ⟨ad, e, _⟩ := HR0.out.2.2 (by simp)
    cases e
  subst hl
  go_enter Try.func80, Try.ntmps80
  go_wp2
  go_ret
  exact ⟨_, rfl, Kd.R_nil _ _ _ _ _, Below.refl _ _⟩
 ·go_enter Try.func80, Try.ntmps80
  go_wp2_with (first | ((with_reducible refine gate_dst (N := 5) rfl ?_); refine Kd.R_lit (Kd.int .i64) _ 3 ?hg (N := 5) ?hd (xs := ([] : List Int)) (inner := []) (ok := fun _ => True) (okp := fun _ => True) ?hr ?hp (fun _ hk => hk) trivial (Below.refl _ _) (Nat.le_refl _) (by simp) ?_; (case hd => rfl); (case hg => rfl); (case hr => first | (go_simp; done) | (go_simp; rfl)); (case hp => exact (Reps.none _ _)); intro v1 w3 ho4 hb hg_ hnew_; clear hg_ hnew_; have n0_ := Ω5_6 (Kd.R_lower ho4 (below_size HB.out)); have n1_ := Ω5_6 (below_step HB.out hb); clear HB; have HO1 := n0_; have HB := n1_; clear n0_ n1_; clear hb ho4) | ((with_reducible refine gate_builtin (b := .append) (xs := #[.tmp 5, .tmp 6]) rfl ?_); at_builtin; refine Kd.R_append_rows (Kd.int .i64) (w0 := w) w.heap.size rfl (.tmp 5) (.tmp 6) 22 3 (.int .i64 0) 8 rfl Try.underlying22 info3 rfl (by decide) (by omega) v1 ([] : List Int) l0 _ _ _ (fun _ => True) (fun _ => False) rfl rfl ?aO ?aR (fun _ _ h => h) (fun _ h => h.elim) ?aF ?aB ?aS ?aL ?_; (case aR => exact (Kd.C_below HR0.out HB.out)); (case aB => exact HB.out); (case aF => exact (fun _ _ => trivial)); (case aO => exact HO1.out); (case aS => exact (below_size HB.out)); (case aL => have := HL.out; simp only [List.length_nil]; omega); intro v2 w5 ho hb hg hat; have n0_ := Ω5_6 (hb); have n1_ := Ω5_6 (ho); clear HB; clear HO1; have HB := n0_; have HO2 := n1_; clear n0_ n1_; clear ho hb hg hat))
  go_ret
  exact ⟨_, rfl, HO2.out, HB.out⟩

/-! ### impl_blank: function 59 -/
def impl_blank.f (k : Nat) (l0 : List Int) : Option (List Int × List Int) := (impl_DimsOk.f k l0).bind fun t311 => (if t311 = true then ((slices_Clone_int_int.f l0).bind fun t312 => ((impl_product.f k l0).bind fun t315 => (if 0 ≤ t315 then (if (t315 : Int).toNat ≤ 35184372088832 then (some (t312, (List.replicate (t315 : Int).toNat 0))) else (none)) else (none)))) else (some (([] : List Int), ([] : List Int))))
theorem impl_blank.mono : ∀ a0 k, LeO (impl_blank.f k a0) (impl_blank.f (k + 1) a0) := by
 intro a0 k
 unfold impl_blank.f
 repeat' first
   | (with_reducible exact impl_DimsOk.mono _ _)
   | (with_reducible exact impl_product.mono _ _)
   | (with_reducible exact LeO.refl _)
   | (with_reducible exact LeO.none _)
   | (with_reducible refine LeO.ite ?_ ?_)
   | (with_reducible refine LeO.bind ?_ (fun _ => ?_))
   | exact impl_DimsOk.mono _ _
   | exact impl_product.mono _ _
   | exact LeO.none _
   | refine LeO.ite ?_ ?_
   | refine LeO.bind ?_ (fun _ => ?_)
set_option maxHeartbeats 8000000 in
set_option maxRecDepth 100000 in
theorem impl_blank.calls (k : Nat) (A0 : Option Addr) (c0 : Nat) (l0 : List Int) (r1 : List Int) (r2 : List Int) (w : World) (hr0 : Kd.C (Kd.int .i64) w A0 l0.length l0) (hc0 : l0.length ≤ c0) (h : impl_blank.f k l0 = some (r1, r2)) :
  Calls Try.prog 59 #[.slice A0 l0.length c0] w fun e w' => ∃ v0_ v1_ : Value, e = .returned (.agg #[v0_, v1_]) ∧ Kd.R (Kd.int .i64) 3 w' w.heap.size (fun k_ => some k_ ≠ (v1_ : Value).ownBlock) v0_ r1 ∧ Kd.R (Kd.int .i64) 3 w' w.heap.size (fun k_ => some k_ ≠ (v0_ : Value).ownBlock) v1_ r2 ∧ Below w.heap.size w w' := by
 have hu39 := Try.underlying39
 have HR0 := Ω5_6 hr0
 have HC0 := Ω5_6 hc0
 clear hr0 hc0
 have HB := Ω5_6 (Below.refl w.heap.size w)
 have H : ((impl_DimsOk.f k l0).bind fun t311 => (if t311 = true then ((slices_Clone_int_int.f l0).bind fun t312 => ((impl_product.f k l0).bind fun t315 => (if 0 ≤ t315 then (if (t315 : Int).toNat ≤ 35184372088832 then (some (t312, (List.replicate (t315 : Int).toNat 0))) else (none)) else (none)))) else (some (([] : List Int), ([] : List Int))))) = some (r1, r2) := h
 clear h
 replace H := Option.bind_eq_some_iff.mp H
 obtain ⟨t311, A20, H⟩ := H
 try dsimp only at H
 have A2 := Ω5_6 A20
 clear A20
 by_cases c3 : t311 = true
 ·subst c3
  have H1 : ((slices_Clone_int_int.f l0).bind fun t312 => ((impl_product.f k l0).bind fun t315 => (if 0 ≤ t315 then (if (t315 : Int).toNat ≤ 35184372088832 then (some (t312, (List.replicate (t315 : Int).toNat 0))) else (none)) else (none)))) = some (r1, r2) := by rw [if_pos rfl] at H; exact H
  clear H
  have H := H1
  clear H1
  replace H := Option.bind_eq_some_iff.mp H
  obtain ⟨t312, A40, H⟩ := H
  try dsimp only at H
  have A4 := Ω5_6 A40
  clear A40
  replace H := Option.bind_eq_some_iff.mp H
  obtain ⟨t315, A50, H⟩ := H
  try dsimp only at H
  have A5 := Ω5_6 A50
  clear A50
  by_cases c6 : 0 ≤ t315
  ·rw [if_pos c6] at H
   have c6b0 := eq_true c6
   have c6b1 : decide (0 ≤ t315) = true := decide_eq_true c6
   clear c6
   by_cases c7 : (t315 : Int).toNat ≤ 35184372088832
   ·rw [if_pos c7] at H
    have c7b0 := eq_true c7
    have c7b1 : decide ((t315 : Int).toNat ≤ 35184372088832) = true := decide_eq_true c7
    clear c7
    obtain ⟨y316, hy316⟩ : ∃ y_ : List Int, y_ = (List.replicate (t315 : Int).toNat 0) := ⟨_, rfl⟩
    replace H : (some (t312, y316)) = some (r1, r2) := by first | (rw [hy316]; with_reducible exact H) | (have H2_ := (Option.bind_some _ _).symm.trans H; rw [hy316]; with_reducible exact H2_) | (have H2_ := (Option.bind_some _ _).symm.trans H; with_reducible exact H2_) | with_reducible exact H | (rw [hy316]; exact H) | exact H
    have Ny316 := Ω5_6 hy316
    clear hy316
    simp only [Option.some.injEq, Prod.mk.injEq] at H
    obtain ⟨rfl, rfl⟩ := H
    go_enter Try.func59, Try.ntmps59
    go_wp2_with (first | ((with_reducible refine gate_dst (N := 2) rfl ?_); refine box_event ?hg (N := 2) ?hd (cs := #[.slice none 0 0, .slice none 0 0]) (t := 39) ?hr ?_; (case hd => rfl); (case hg => rfl); (case hr => first | (go_simp; done) | (go_simp; rfl)); intro gb310 hg w8 hbox hb; have n0_ := Ω5_6 (below_step (by repeat (first | (with_reducible first | exact HB.out | apply Ω6_6 | apply Ω7_6 | apply Ω8_6) | exact HB.out)) hb); have n1_ := Ω5_6 (hbox); have n2_ := Ω5_6 ((by rw [hg]; exact (below_size (by repeat (first | (with_reducible first | exact HB.out | apply Ω6_6 | apply Ω7_6 | apply Ω8_6) | exact HB.out))) : w.heap.size ≤ gb310)); have n3_ := Ω5_6 ((by rw [hg]; exact (below_size (by repeat (first | (with_reducible first | exact HB.out | apply Ω6_6 | apply Ω7_6 | apply Ω8_6) | exact HB.out))) : w.heap.size ≤ gb310)); clear HB; have HB := n0_; have BK310 := n1_; have GW310 := n2_; have GE310 := n3_; clear n0_ n1_ n2_ n3_; clear hb hbox hg) | ((with_reducible refine gate_callee (f := 83) rfl ?_); refine goesL_ (some 4) rfl rfl Try.func83 (by kernel_rfl) rfl #[.slice A0 l0.length c0] rfl (by (try simp only [List.map_toArray, List.map_cons, List.map_nil]); first | done | rfl | (simp only [List.length_drop, List.length_take]; rfl)) ?_; (with_reducible refine (impl_DimsOk.calls k _ _ l0 true _ ?side1 ?side2 A2.out).mono ?_); (case side1 => repeat (first | exact (Kd.C_below HR0.out HB.out) | (with_reducible refine Kd.C_alloc ?_ _) | (with_reducible refine Kd.C_drewN ?_ _) | (with_reducible refine Kd.C_drew ?_))); (case side2 => exact HC0.out); rintro e w' ⟨rfl, ⟨nd, rfl⟩⟩; refine ⟨_, rfl, ?_⟩; (try (rw [drewN_self w8]; generalize hq_ : World.drewN w8 _ = w8; have n0_ : Aside0 (w8.heap[gb310]? = some (.cells #[.slice none 0 0, .slice none 0 0] 39 (0, 0))) := ⟨by rw [← hq_]; exact (by (with_reducible repeat (first | refine blk_drewN ?_ _ | refine blk_drew ?_ | refine blk_alloc ?_ _)); exact BK310.out)⟩; have n1_ : Aside0 (Below w.heap.size w w8) := ⟨by rw [← hq_]; exact (by repeat (first | (with_reducible first | exact HB.out | apply Ω6_6 | apply Ω7_6 | apply Ω8_6 | refine below_set ?_ GE310.out) | exact HB.out))⟩; clear BK310 HB hq_; have BK310 := n0_; have HB := n1_; clear n0_ n1_))) | ((with_reducible refine gate_callee (f := 80) rfl ?_); refine goesL_ (some 8) rfl rfl Try.func80 (by kernel_rfl) rfl #[.slice A0 l0.length c0] rfl (by (try simp only [List.map_toArray, List.map_cons, List.map_nil]); first | done | rfl | (simp only [List.length_drop, List.length_take]; rfl)) ?_; (with_reducible refine (slices_Clone_int_int.calls _ _ l0 t312 _ ?side1 ?side2 A4.out).mono ?_); (case side1 => repeat (first | exact (Kd.C_below HR0.out HB.out) | (with_reducible refine Kd.C_alloc ?_ _) | (with_reducible refine Kd.C_drewN ?_ _) | (with_reducible refine Kd.C_drew ?_))); (case side2 => exact HC0.out); rintro e w9 ⟨v313, rfl, ho0, hb⟩; refine ⟨_, rfl, ?_⟩; have n0_ := Ω5_6 (Kd.R_lower ho0 (below_size (by repeat (first | (with_reducible first | exact HB.out | apply Ω6_6 | apply Ω7_6 | apply Ω8_6 | refine below_set ?_ GE310.out) | exact HB.out)))); have n1_ := Ω5_6 (blk_below (g := gb310) (o := .cells #[.slice none 0 0, .slice none 0 0] 39 (0, 0)) (by (with_reducible repeat (first | refine blk_drewN ?_ _ | refine blk_drew ?_ | refine blk_alloc ?_ _)); exact BK310.out) hb); have n2_ := Ω5_6 (below_step (by repeat (first | (with_reducible first | exact HB.out | apply Ω6_6 | apply Ω7_6 | apply Ω8_6 | refine below_set ?_ GE310.out) | exact HB.out)) hb); clear BK310; clear HB; have HO314 := n0_; have BK310 := n1_; have HB := n2_; clear n0_ n1_ n2_; (try clear hb); (try clear hb2); (try clear hk); (try clear hi); (try clear ho0)) | ((with_reducible refine gate_callee (f := 84) rfl ?_); refine goesL_ (some 10) rfl rfl Try.func84 (by kernel_rfl) rfl #[.slice A0 l0.length c0] rfl (by (try simp only [List.map_toArray, List.map_cons, List.map_nil]); first | done | rfl | (simp only [List.length_drop, List.length_take]; rfl)) ?_; (with_reducible refine (impl_product.calls k _ _ l0 t315 _ ?side1 ?side2 A5.out).mono ?_); (case side1 => repeat (first | exact (Kd.C_below HR0.out HB.out) | (with_reducible refine Kd.C_alloc ?_ _) | (with_reducible refine Kd.C_drewN ?_ _) | (with_reducible refine Kd.C_drew ?_))); (case side2 => exact HC0.out); rintro e w' ⟨rfl, ⟨nd, rfl⟩⟩; refine ⟨_, rfl, ?_⟩; (try (rw [drewN_self w9]; generalize hq_ : World.drewN w9 _ = w9; have n0_ : Aside0 (Kd.R (Kd.int .i64) 3 w9 w.heap.size (fun _ => True) v313 t312) := ⟨by rw [← hq_]; exact (by (with_reducible repeat (first | apply Kd.R_alloc | apply Kd.R_drewN | apply Kd.R_drew)); exact HO314.out)⟩; have n1_ : Aside0 (w9.heap[gb310]? = some (.cells #[.slice none 0 0, .slice none 0 0] 39 (0, 0))) := ⟨by rw [← hq_]; exact (by (with_reducible repeat (first | refine blk_drewN ?_ _ | refine blk_drew ?_ | refine blk_alloc ?_ _)); exact BK310.out)⟩; have n2_ : Aside0 (Below w.heap.size w w9) := ⟨by rw [← hq_]; exact (by repeat (first | (with_reducible first | exact HB.out | apply Ω6_6 | apply Ω7_6 | apply Ω8_6 | refine below_set ?_ GE310.out) | exact HB.out))⟩; clear HO314 BK310 HB hq_; have HO314 := n0_; have BK310 := n1_; have HB := n2_; clear n0_ n1_ n2_))) | ((with_reducible refine gate_dst (N := 11) rfl ?_); refine Kd.R_make (Kd.int .i64) _ 3 rfl (N := 11) rfl 22 _ _ rfl t315 rfl rfl Try.underlying22 (.int .i64 0) 8 info3 rfl (by decide) (by omega) 0 (ok := fun _ => True) (okp := fun _ => True) rfl (fun _ hk => hk) trivial (ΩS_6 (by first | (with_reducible assumption) | assumption)) (Nat.le_trans (Nat.mul_le_mul_right _ (ΩS_6 (by first | (with_reducible assumption) | assumption) : t315.toNat ≤ 35184372088832)) (by omega)) (Below.refl _ _) (Nat.le_refl _) ?_; intro v317 w10 ho11 hb hg_ hnew_; clear hg_ hnew_; (first | rw [← Ny316.out] at ho11 | (simp only [Int.reduceToNat] at ho11; rw [← Ny316.out] at ho11)); have n0_ := Ω5_6 (Kd.R_elder' (by (with_reducible repeat (first | apply Kd.R_alloc | apply Kd.R_drewN | apply Kd.R_drew)); exact HO314.out) (Kd.R_base ho11) hb); have n1_ := Ω5_6 (Kd.R_lower (Kd.R_new' ho11 (Kd.R_lt (by (with_reducible repeat (first | apply Kd.R_alloc | apply Kd.R_drewN | apply Kd.R_drew)); exact HO314.out))) (below_size (by repeat (first | (with_reducible first | exact HB.out | apply Ω6_6 | apply Ω7_6 | apply Ω8_6 | refine below_set ?_ GE310.out) | exact HB.out)))); have n2_ := Ω5_6 (blk_below (g := gb310) (o := .cells #[.slice none 0 0, .slice none 0 0] 39 (0, 0)) (by (with_reducible repeat (first | refine blk_drewN ?_ _ | refine blk_drew ?_ | refine blk_alloc ?_ _)); exact BK310.out) hb); have n3_ := Ω5_6 (below_step (by repeat (first | (with_reducible first | exact HB.out | apply Ω6_6 | apply Ω7_6 | apply Ω8_6 | refine below_set ?_ GE310.out) | exact HB.out)) hb); clear HO314; clear BK310; clear HB; have HO314 := n0_; have HO318 := n1_; have BK310 := n2_; have HB := n3_; clear n0_ n1_ n2_ n3_; clear hb ho11; obtain ⟨Ao12, co12, eo12⟩ := Kd.R_slice HO318.out; subst eo12; obtain ⟨Ao13, co13, eo13⟩ := Kd.R_slice HO314.out; subst eo13; have hcz14_0 : w10.cell? ⟨gb310, 0, none⟩ = some (.slice none 0 0) := (blk_cell BK310.out 0).trans rfl; have hcz14_1 : w10.cell? ⟨gb310, 1, none⟩ = some (.slice none 0 0) := (blk_cell BK310.out 1).trans rfl; have hfz14_0 := blk_frozen BK310.out 0; have hfz14_1 := blk_frozen BK310.out 1))
    refine bodyPost_ret (results_cell_row rfl _ _ gb310 39 #[.slice Ao13 t312.length co13, .slice Ao12 y316.length co12] (0, 0) _ rfl (by (with_reducible repeat (first | refine blk_drewN ?_ _ | refine blk_drew ?_ | refine blk_alloc ?_ _)); refine blk_put (cs := #[.slice Ao13 t312.length co13, .slice none 0 0]) ?_ 1 _ rfl; (with_reducible repeat (first | refine blk_drewN ?_ _ | refine blk_drew ?_ | refine blk_alloc ?_ _)); refine blk_put (cs := #[.slice none 0 0, .slice none 0 0]) ?_ 0 _ rfl; (with_reducible repeat (first | refine blk_drewN ?_ _ | refine blk_drew ?_ | refine blk_alloc ?_ _)); exact BK310.out) Try.underlying39 rfl (by kernel_rfl)) rfl ?_
    exact ⟨_, _, by first | rfl | (simp [errW_none, errW_some] <;> rfl) | (simp [*, errW_none, errW_some] <;> rfl), by (with_reducible repeat (first | apply Kd.R_alloc | apply Kd.R_drewN | apply Kd.R_drew)); exact Kd.R_mono (Kd.R_far (p := ⟨gb310, 1, none⟩) (Kd.R_far (p := ⟨gb310, 0, none⟩) (Kd.R_types HO314.out BK310.out (by decide)) (fun _ hk => hk.2) (.slice Ao13 t312.length co13)) (fun _ hk => hk.2) (.slice Ao12 y316.length co12)) (fun _ hk => by first | exact hk.1.2 | exact hk.1), by (with_reducible repeat (first | apply Kd.R_alloc | apply Kd.R_drewN | apply Kd.R_drew)); exact Kd.R_mono (Kd.R_far (p := ⟨gb310, 1, none⟩) (Kd.R_far (p := ⟨gb310, 0, none⟩) (Kd.R_types HO318.out BK310.out (by decide)) (fun _ hk => hk.2) (.slice Ao13 t312.length co13)) (fun _ hk => hk.2) (.slice Ao12 y316.length co12)) (fun _ hk => by first | exact hk.1.2 | exact hk.1), by repeat (first | (with_reducible first | exact HB.out | apply Ω6_6 | apply Ω7_6 | apply Ω8_6 | refine below_set ?_ GE310.out) | exact HB.out)⟩
   ·rw [if_neg c7] at H
    exact absurd H (by simp)
  ·rw [if_neg c6] at H
   exact absurd H (by simp)
 ·replace c3 := Bool.eq_false_iff.mpr c3
  subst c3
  have H1 : (some (([] : List Int), ([] : List Int))) = some (r1, r2) := by rw [if_neg (show ¬ (false = true) by decide)] at H; exact H
  clear H
  have H := H1
  clear H1
  simp only [Option.some.injEq, Prod.mk.injEq] at H
  obtain ⟨rfl, rfl⟩ := H
  go_enter Try.func59, Try.ntmps59
  go_wp2_with (first | ((with_reducible refine gate_dst (N := 2) rfl ?_); refine box_event ?hg (N := 2) ?hd (cs := #[.slice none 0 0, .slice none 0 0]) (t := 39) ?hr ?_; (case hd => rfl); (case hg => rfl); (case hr => first | (go_simp; done) | (go_simp; rfl)); intro gb310 hg w15 hbox hb; have n0_ := Ω5_6 (below_step (by repeat (first | (with_reducible first | exact HB.out | apply Ω6_6 | apply Ω7_6 | apply Ω8_6) | exact HB.out)) hb); have n1_ := Ω5_6 (hbox); have n2_ := Ω5_6 ((by rw [hg]; exact (below_size (by repeat (first | (with_reducible first | exact HB.out | apply Ω6_6 | apply Ω7_6 | apply Ω8_6) | exact HB.out))) : w.heap.size ≤ gb310)); have n3_ := Ω5_6 ((by rw [hg]; exact (below_size (by repeat (first | (with_reducible first | exact HB.out | apply Ω6_6 | apply Ω7_6 | apply Ω8_6) | exact HB.out))) : w.heap.size ≤ gb310)); clear HB; have HB := n0_; have BK310 := n1_; have GW310 := n2_; have GE310 := n3_; clear n0_ n1_ n2_ n3_; clear hb hbox hg) | ((with_reducible refine gate_callee (f := 83) rfl ?_); refine goesL_ (some 4) rfl rfl Try.func83 (by kernel_rfl) rfl #[.slice A0 l0.length c0] rfl (by (try simp only [List.map_toArray, List.map_cons, List.map_nil]); first | done | rfl | (simp only [List.length_drop, List.length_take]; rfl)) ?_; (with_reducible refine (impl_DimsOk.calls k _ _ l0 false _ ?side1 ?side2 A2.out).mono ?_); (case side1 => repeat (first | exact (Kd.C_below HR0.out HB.out) | (with_reducible refine Kd.C_alloc ?_ _) | (with_reducible refine Kd.C_drewN ?_ _) | (with_reducible refine Kd.C_drew ?_))); (case side2 => exact HC0.out); rintro e w' ⟨rfl, ⟨nd, rfl⟩⟩; refine ⟨_, rfl, ?_⟩; (try (rw [drewN_self w15]; generalize hq_ : World.drewN w15 _ = w15; have n0_ : Aside0 (w15.heap[gb310]? = some (.cells #[.slice none 0 0, .slice none 0 0] 39 (0, 0))) := ⟨by rw [← hq_]; exact (by (with_reducible repeat (first | refine blk_drewN ?_ _ | refine blk_drew ?_ | refine blk_alloc ?_ _)); exact BK310.out)⟩; have n1_ : Aside0 (Below w.heap.size w w15) := ⟨by rw [← hq_]; exact (by repeat (first | (with_reducible first | exact HB.out | apply Ω6_6 | apply Ω7_6 | apply Ω8_6 | refine below_set ?_ GE310.out) | exact HB.out))⟩; clear BK310 HB hq_; have BK310 := n0_; have HB := n1_; clear n0_ n1_)); have hcz16_0 : w15.cell? ⟨gb310, 0, none⟩ = some (.slice none 0 0) := (blk_cell BK310.out 0).trans rfl; have hcz16_1 : w15.cell? ⟨gb310, 1, none⟩ = some (.slice none 0 0) := (blk_cell BK310.out 1).trans rfl; have hfz16_0 := blk_frozen BK310.out 0; have hfz16_1 := blk_frozen BK310.out 1))
  refine bodyPost_ret (results_cell_row rfl _ _ gb310 39 #[.slice none 0 0, .slice none 0 0] (0, 0) _ rfl (by (with_reducible repeat (first | refine blk_drewN ?_ _ | refine blk_drew ?_ | refine blk_alloc ?_ _)); refine blk_put (cs := #[.slice none 0 0, .slice none 0 0]) ?_ 1 _ rfl; (with_reducible repeat (first | refine blk_drewN ?_ _ | refine blk_drew ?_ | refine blk_alloc ?_ _)); refine blk_put (cs := #[.slice none 0 0, .slice none 0 0]) ?_ 0 _ rfl; (with_reducible repeat (first | refine blk_drewN ?_ _ | refine blk_drew ?_ | refine blk_alloc ?_ _)); exact BK310.out) Try.underlying39 rfl (by kernel_rfl)) rfl ?_
  exact ⟨_, _, by first | rfl | (simp [errW_none, errW_some] <;> rfl) | (simp [*, errW_none, errW_some] <;> rfl), by first | exact Kd.R_nil _ _ _ _ _ | exact Kd.N_nil _ _ _ _ _ | exact Kd.V_nil _ _ _ _ _ | exact Kd.Q_nil _ _ _ _ _ | exact Kd.S_nil _ _ _ _ _, by first | exact Kd.R_nil _ _ _ _ _ | exact Kd.N_nil _ _ _ _ _ | exact Kd.V_nil _ _ _ _ _ | exact Kd.Q_nil _ _ _ _ _ | exact Kd.S_nil _ _ _ _ _, by repeat (first | (with_reducible first | exact HB.out | apply Ω6_6 | apply Ω7_6 | apply Ω8_6 | refine below_set ?_ GE310.out) | exact HB.out)⟩

/-! ### impl_Fill: function 23 -/
def impl_Fill.l0 : Nat → Int → Int → Int → List Int → List Int → Option (List Int × List Int)
 | 0, _, _, _, _, _ => none
 | k + 1, x1, x11, x12, x327000, x327001 => if x12 < x11 then ((impl_Mod.f x1).bind fun t327 => (if 0 ≤ x12 then (if x12 < (x327001.length : Int) then (impl_Fill.l0 k x1 x11 (wrap64 (x12 + 1)) x327000 (x327001.set (x12 : Int).toNat t327)) else (none)) else (none))) else (some (x327000, x327001))
def impl_Fill.f (k : Nat) (l0 : List Int) (a1 : Int) : Option (List Int × List Int) := (impl_blank.f k l0).bind fun bt320 => (impl_Fill.l0 k a1 (bt320.2.length : Int) 0 bt320.1 bt320.2)
theorem impl_Fill.mono_l : ∀ k, (∀ y0 y1 y2 y3 y4, LeO (impl_Fill.l0 k y0 y1 y2 y3 y4) (impl_Fill.l0 (k + 1) y0 y1 y2 y3 y4))
 | 0 => fun _ _ _ _ _ r h => by simp [impl_Fill.l0] at h
 | k + 1 => by
  have ih0 := impl_Fill.mono_l k
  ·intro y0 y1 y2 y3 y4
   unfold impl_Fill.l0
   repeat' first
   | (with_reducible exact ih0 _ _ _ _ _)
   | (with_reducible exact impl_blank.mono _ _)
   | (with_reducible exact LeO.refl _)
   | (with_reducible exact LeO.none _)
   | (with_reducible refine LeO.ite ?_ ?_)
   | (with_reducible refine LeO.bind ?_ (fun _ => ?_))
   | exact ih0 _ _ _ _ _
   | exact impl_blank.mono _ _
   | exact LeO.none _
   | refine LeO.ite ?_ ?_
   | refine LeO.bind ?_ (fun _ => ?_)
theorem impl_Fill.mono : ∀ a0 a1 k, LeO (impl_Fill.f k a0 a1) (impl_Fill.f (k + 1) a0 a1) := by
 intro a0 a1 k
 have ih0 := impl_Fill.mono_l k
 unfold impl_Fill.f
 repeat' first
   | (with_reducible exact ih0 _ _ _ _ _)
   | (with_reducible exact impl_blank.mono _ _)
   | (with_reducible exact LeO.refl _)
   | (with_reducible exact LeO.none _)
   | (with_reducible refine LeO.ite ?_ ?_)
   | (with_reducible refine LeO.bind ?_ (fun _ => ?_))
   | exact ih0 _ _ _ _ _
   | exact impl_blank.mono _ _
   | exact LeO.none _
   | refine LeO.ite ?_ ?_
   | refine LeO.bind ?_ (fun _ => ?_)
set_option maxHeartbeats 8000000 in
set_option maxRecDepth 100000 in
theorem impl_Fill.calls (k : Nat) (A0 : Option Addr) (c0 : Nat) (l0 : List Int) (a1 : Int) (r1 : List Int) (r2 : List Int) (w : World) (hr0 : Kd.C (Kd.int .i64) w A0 l0.length l0) (hc0 : l0.length ≤ c0) (h : impl_Fill.f k l0 a1 = some (r1, r2)) :
  Calls Try.prog 23 #[.slice A0 l0.length c0, .int .i64 a1] w fun e w' => ∃ v0_ v1_ : Value, e = .returned (.agg #[v0_, v1_]) ∧ Kd.R (Kd.int .i64) 3 w' w.heap.size (fun k_ => some k_ ≠ (v1_ : Value).ownBlock) v0_ r1 ∧ Kd.R (Kd.int .i64) 3 w' w.heap.size (fun k_ => some k_ ≠ (v0_ : Value).ownBlock) v1_ r2 ∧ Below w.heap.size w w' := by
 have hu39 := Try.underlying39
 have HR0 := Ω5_6 hr0
 have HC0 := Ω5_6 hc0
 clear hr0 hc0
 have HB := Ω5_6 (Below.refl w.heap.size w)
 have H : ((impl_blank.f k l0).bind fun bt320 => (impl_Fill.l0 k a1 (bt320.2.length : Int) 0 bt320.1 bt320.2)) = some (r1, r2) := h
 clear h
 replace H := Option.bind_eq_some_iff.mp H
 obtain ⟨⟨t320, t323⟩, A30, H⟩ := H
 try dsimp only at H
 have A3 := Ω5_6 A30
 clear A30
 have H' := Ω5_6 H
 clear H
 go_enter Try.func23, Try.ntmps23
 go_wp2_with (first | ((with_reducible refine gate_dst (N := 4) rfl ?_); refine box_event ?hg (N := 4) ?hd (cs := #[.slice none 0 0, .slice none 0 0]) (t := 39) ?hr ?_; (case hd => rfl); (case hg => rfl); (case hr => first | (go_simp; done) | (go_simp; rfl)); intro gb319 hg w4 hbox hb; have n0_ := Ω5_6 (below_step (by repeat (first | (with_reducible first | exact HB.out | apply Ω6_6 | apply Ω7_6 | apply Ω8_6) | exact HB.out)) hb); have n1_ := Ω5_6 (hbox); have n2_ := Ω5_6 ((by rw [hg]; exact (below_size (by repeat (first | (with_reducible first | exact HB.out | apply Ω6_6 | apply Ω7_6 | apply Ω8_6) | exact HB.out))) : w.heap.size ≤ gb319)); have n3_ := Ω5_6 ((by rw [hg]; exact (below_size (by repeat (first | (with_reducible first | exact HB.out | apply Ω6_6 | apply Ω7_6 | apply Ω8_6) | exact HB.out))) : w.heap.size ≤ gb319)); clear HB; have HB := n0_; have BK319 := n1_; have GW319 := n2_; have GE319 := n3_; clear n0_ n1_ n2_ n3_; clear hb hbox hg) | ((with_reducible refine gate_callee (f := 59) rfl ?_); refine goesL_ (some 8) rfl rfl Try.func59 (by kernel_rfl) rfl #[.slice A0 l0.length c0] rfl (by (try simp only [List.map_toArray, List.map_cons, List.map_nil]); first | done | rfl | (simp only [List.length_drop, List.length_take]; rfl)) ?_; (with_reducible refine (impl_blank.calls k _ _ l0 t320 t323 _ ?side1 ?side2 A3.out).mono ?_); (case side1 => repeat (first | exact (Kd.C_below HR0.out HB.out) | (with_reducible refine Kd.C_alloc ?_ _) | (with_reducible refine Kd.C_drewN ?_ _) | (with_reducible refine Kd.C_drew ?_))); (case side2 => exact HC0.out); rintro e w5 ⟨v321, v324, rfl, ho0, ho1, hb⟩; refine ⟨_, rfl, ?_⟩; have n0_ := Ω5_6 (Kd.R_lower ho0 (below_size (by repeat (first | (with_reducible first | exact HB.out | apply Ω6_6 | apply Ω7_6 | apply Ω8_6 | refine below_set ?_ GE319.out) | exact HB.out)))); have n1_ := Ω5_6 (Kd.R_lower ho1 (below_size (by repeat (first | (with_reducible first | exact HB.out | apply Ω6_6 | apply Ω7_6 | apply Ω8_6 | refine below_set ?_ GE319.out) | exact HB.out)))); have n2_ := Ω5_6 (blk_below (g := gb319) (o := .cells #[.slice none 0 0, .slice none 0 0] 39 (0, 0)) (by (with_reducible repeat (first | refine blk_drewN ?_ _ | refine blk_drew ?_ | refine blk_alloc ?_ _)); exact BK319.out) hb); have n3_ := Ω5_6 (below_step (by repeat (first | (with_reducible first | exact HB.out | apply Ω6_6 | apply Ω7_6 | apply Ω8_6 | refine below_set ?_ GE319.out) | exact HB.out)) hb); clear BK319; clear HB; have HO322 := n0_; have HO325 := n1_; have BK319 := n2_; have HB := n3_; clear n0_ n1_ n2_ n3_; (try clear hb); (try clear hb2); (try clear hk); (try clear hi); (try clear ho0); (try clear ho1)) | ((with_reducible refine gate_dst (N := 5) rfl ?_); refine box_event ?hg (N := 5) ?hd (cs := #[.slice none 0 0, .slice none 0 0]) (t := 39) ?hr ?_; (case hd => rfl); (case hg => rfl); (case hr => first | (go_simp; done) | (go_simp; rfl)); intro gb326 hg w6 hbox hb; have n0_ := Ω5_6 (Kd.R_below (by (with_reducible repeat (first | apply Kd.R_alloc | apply Kd.R_drewN | apply Kd.R_drew)); exact HO322.out) hb); have n1_ := Ω5_6 (Kd.R_below (by (with_reducible repeat (first | apply Kd.R_alloc | apply Kd.R_drewN | apply Kd.R_drew)); exact HO325.out) hb); have n2_ := Ω5_6 (blk_below (g := gb319) (o := .cells #[.slice none 0 0, .slice none 0 0] 39 (0, 0)) (by (with_reducible repeat (first | refine blk_drewN ?_ _ | refine blk_drew ?_ | refine blk_alloc ?_ _)); exact BK319.out) hb); have n3_ := Ω5_6 (below_step (by repeat (first | (with_reducible first | exact HB.out | apply Ω6_6 | apply Ω7_6 | apply Ω8_6 | refine below_set ?_ GE319.out) | exact HB.out)) hb); have n4_ := Ω5_6 (hbox); have n5_ := Ω5_6 ((by rw [hg]; exact (below_size (by repeat (first | (with_reducible first | exact HB.out | apply Ω6_6 | apply Ω7_6 | apply Ω8_6 | refine below_set ?_ GE319.out) | exact HB.out))) : w.heap.size ≤ gb326)); have n6_ := Ω5_6 ((by rw [hg]; exact (below_size (by repeat (first | (with_reducible first | exact HB.out | apply Ω6_6 | apply Ω7_6 | apply Ω8_6 | refine below_set ?_ GE319.out) | exact HB.out))) : w.heap.size ≤ gb326)); have n7_ := Ω5_6 ((by rw [hg]; exact Nat.ne_of_lt (blk_lt (g := gb319) (o := .cells #[.slice none 0 0, .slice none 0 0] 39 (0, 0)) (by (with_reducible repeat (first | refine blk_drewN ?_ _ | refine blk_drew ?_ | refine blk_alloc ?_ _)); exact BK319.out)) : gb319 ≠ gb326)); have n8_ := Ω5_6 ((by rw [hg]; exact Nat.ne_of_gt (blk_lt (g := gb319) (o := .cells #[.slice none 0 0, .slice none 0 0] 39 (0, 0)) (by (with_reducible repeat (first | refine blk_drewN ?_ _ | refine blk_drew ?_ | refine blk_alloc ?_ _)); exact BK319.out)) : gb326 ≠ gb319)); clear HO322; clear HO325; clear BK319; clear HB; have HO322 := n0_; have HO325 := n1_; have BK319 := n2_; have HB := n3_; have BK326 := n4_; have GW326 := n5_; have GE326 := n6_; have NB319_326 := n7_; have NB326_319 := n8_; clear n0_ n1_ n2_ n3_ n4_ n5_ n6_ n7_ n8_; clear hb hbox hg; obtain ⟨Ao7, co7, eo7⟩ := Kd.R_slice HO322.out; subst eo7; have hnb8 := NB326_319.out; have hnc8 := NB319_326.out; have hcz9_0 : w6.cell? ⟨gb326, 0, none⟩ = some (.slice none 0 0) := (blk_cell BK326.out 0).trans rfl; have hcz9_1 : w6.cell? ⟨gb326, 1, none⟩ = some (.slice none 0 0) := (blk_cell BK326.out 1).trans rfl; have hfz9_0 := blk_frozen BK326.out 0; have hfz9_1 := blk_frozen BK326.out 1; obtain ⟨Ao10, co10, eo10⟩ := Kd.R_slice HO325.out; subst eo10))
 go_loopg [12] k (fun kq v12 w' => ∃ (x12_1 : Int) (x327000_1 : List Int) (x327001_1 : List Int) (u327000 : Value) (u327001 : Value), v12 = .int .i64 x12_1 ∧ Aside0 (impl_Fill.l0 kq a1 (t323.length : Int) x12_1 x327000_1 x327001_1 = some (r1, r2)) ∧ Aside0 (kq ≤ k) ∧ Aside0 (Kd.R (Kd.int .i64) 3 w' w.heap.size (fun k_ => some k_ ≠ (u327001 : Value).ownBlock) u327000 x327000_1) ∧ Aside0 (Kd.R (Kd.int .i64) 3 w' w.heap.size (fun k_ => some k_ ≠ (u327000 : Value).ownBlock) u327001 x327001_1) ∧ Aside0 (w'.heap[gb319]? = some (.cells #[(.slice none 0 0), (.slice none 0 0)] 39 (0, 0))) ∧ Aside0 (w'.heap[gb326]? = some (.cells #[u327000, u327001] 39 (0, 0))) ∧ Aside0 (Below w.heap.size w w'))
 case atStart => exact ⟨(0), (t320), (t323), (.slice Ao7 t320.length co7), (.slice Ao10 t323.length co10), (by first | rfl | (simp; done) | (simp [*]; done)), H', ⟨Nat.le_refl _⟩, ⟨by (with_reducible repeat (first | apply Kd.R_alloc | apply Kd.R_drewN | apply Kd.R_drew)); exact Kd.R_mono (Kd.R_far (p := ⟨gb326, 1, none⟩) (Kd.R_far (p := ⟨gb326, 0, none⟩) (Kd.R_types HO322.out BK326.out (by decide)) (fun _ hk => hk.2) (.slice Ao7 t320.length co7)) (fun _ hk => hk.2) (.slice Ao10 t323.length co10)) (fun _ hk => hk.1)⟩, ⟨by (with_reducible repeat (first | apply Kd.R_alloc | apply Kd.R_drewN | apply Kd.R_drew)); exact Kd.R_mono (Kd.R_far (p := ⟨gb326, 1, none⟩) (Kd.R_far (p := ⟨gb326, 0, none⟩) (Kd.R_types HO325.out BK326.out (by decide)) (fun _ hk => hk.2) (.slice Ao7 t320.length co7)) (fun _ hk => hk.2) (.slice Ao10 t323.length co10)) (fun _ hk => hk.1)⟩, ⟨by (with_reducible repeat (first | refine blk_drewN ?_ _ | refine blk_drew ?_ | refine blk_alloc ?_ _)); refine blk_far ?_ NB319_326.out _; (with_reducible repeat (first | refine blk_drewN ?_ _ | refine blk_drew ?_ | refine blk_alloc ?_ _)); refine blk_far ?_ NB319_326.out _; (with_reducible repeat (first | refine blk_drewN ?_ _ | refine blk_drew ?_ | refine blk_alloc ?_ _)); exact BK319.out⟩, ⟨by (with_reducible repeat (first | refine blk_drewN ?_ _ | refine blk_drew ?_ | refine blk_alloc ?_ _)); refine blk_put (cs := #[.slice Ao7 t320.length co7, .slice none 0 0]) ?_ 1 _ rfl; (with_reducible repeat (first | refine blk_drewN ?_ _ | refine blk_drew ?_ | refine blk_alloc ?_ _)); refine blk_put (cs := #[.slice none 0 0, .slice none 0 0]) ?_ 0 _ rfl; (with_reducible repeat (first | refine blk_drewN ?_ _ | refine blk_drew ?_ | refine blk_alloc ?_ _)); exact BK326.out⟩, ⟨by repeat (first | (with_reducible first | exact HB.out | apply Ω6_6 | apply Ω7_6 | apply Ω8_6 | refine below_set ?_ GE319.out | refine below_set ?_ GE326.out) | exact HB.out)⟩⟩
 case round =>
  clear H'
  try clear c2
  try clear p2
  try clear c5
  try clear c8
  try clear hcz9_0
  try clear hcz9_1
  try clear hfz9_0
  try clear hfz9_1
  obtain ⟨x12_1, x327000_1, x327001_1, u327000, u327001, rfl, HA, HK1, HO_327000, HO_327001, BK319, BK326, HB⟩ := hrel
  cases gk with
  | zero => exact absurd HA.out (by simp [impl_Fill.l0])
  | succ k1 =>
   have H := HA.out
   clear HA
   simp only [impl_Fill.l0] at H
   by_cases c11 : x12_1 < (t323.length : Int)
   ·rw [if_pos c11] at H
    have c11b0 : decide (x12_1 < (t323.length : Int)) = true := decide_eq_true c11
    clear c11
    replace H := Option.bind_eq_some_iff.mp H
    obtain ⟨t327, A120, H⟩ := H
    try dsimp only at H
    have A12 := Ω5_6 A120
    clear A120
    by_cases c13 : 0 ≤ x12_1
    ·rw [if_pos c13] at H
     have c13b0 : decide (0 ≤ x12_1) = true := decide_eq_true c13
     clear c13
     by_cases c14 : x12_1 < (x327001_1.length : Int)
     ·rw [if_pos c14] at H
      have c14b0 : decide (x12_1 < (x327001_1.length : Int)) = true := decide_eq_true c14
      clear c14
      obtain ⟨y328, hy328⟩ : ∃ y_ : List Int, y_ = (x327001_1.set (x12_1 : Int).toNat t327) := ⟨_, rfl⟩
      replace H : (impl_Fill.l0 k1 a1 (t323.length : Int) (wrap64 (x12_1 + 1)) x327000_1 y328) = some (r1, r2) := by first | (rw [hy328]; with_reducible exact H) | (have H2_ := (Option.bind_some _ _).symm.trans H; rw [hy328]; with_reducible exact H2_) | (have H2_ := (Option.bind_some _ _).symm.trans H; with_reducible exact H2_) | with_reducible exact H | (rw [hy328]; exact H) | exact H
      have Ny328 := Ω5_6 hy328
      clear hy328
      have H' := Ω5_6 H
      clear H
      try go_wp2
      have n0_ := Ω5_6 (Kd.R_drew HO_327000.out)
      have n1_ := Ω5_6 (Kd.R_drew HO_327001.out)
      have n2_ := Ω5_6 (blk_drew BK319.out)
      have n3_ := Ω5_6 (blk_drew BK326.out)
      have n4_ := Ω5_6 (Ω8_6 HB.out)
      clear HO_327000
      clear HO_327001
      clear BK319
      clear BK326
      clear HB
      have HO_327000 := n0_
      have HO_327001 := n1_
      have BK319 := n2_
      have BK326 := n3_
      have HB := n4_
      clear n0_ n1_ n2_ n3_ n4_
      refine start_ (n := 7) (S := fun w' => w'.cell? ⟨gb326, 0, none⟩ = some (u327000) ∧ w'.cell? ⟨gb326, 1, none⟩ = some (u327001)) (ds := [6]) #[false, false, false, false, false, false, false] (by kernel_rfl) rfl rfl ⟨(blk_cell BK326.out 0).trans rfl, (blk_cell BK326.out 1).trans rfl⟩ (fun hHeld => ?_)
      generalize wr.drew = w16 at HO_327000 HO_327001 BK319 BK326 HB hHeld ⊢
      refine pure_ (i := 0) (N := some 15) (v := ?_) (a' := ?_) #[true, false, false, false, false, false, false] rfl rfl (by kernel_rfl) (fun _ _ _ h => h) (Or.inl ⟨by rfl, ?_⟩) ?_ ?_
      rotate_left
      ·intro w'
       go_simp
       with_reducible rfl
      rotate_left
      ·simp only [Act.put, List.setIfInBounds_toArray, List.set_cons_zero, List.set_cons_succ, i64_w, i32_w]
       rfl
      refine pure_ (i := 2) (N := some 17) (v := ?_) (a' := ?_) #[true, false, true, false, false, false, false] rfl rfl (by kernel_rfl) (fun _ _ _ h => h) (Or.inl ⟨by rfl, ?_⟩) ?_ ?_
      rotate_left
      ·intro w'
       go_simp
       with_reducible rfl
      rotate_left
      ·simp only [Act.put, List.setIfInBounds_toArray, List.set_cons_zero, List.set_cons_succ, i64_w, i32_w]
       rfl
      refine pure_ (i := 3) (N := some 18) (v := ?_) (a' := ?_) #[true, false, true, true, false, false, false] rfl rfl (by kernel_rfl) (fun _ _ _ h => h) (Or.inl ⟨by rfl, ?_⟩) ?_ ?_
      rotate_left
      ·intro w'
       go_simp
       with_reducible rfl
      rotate_left
      ·simp only [Act.put, List.setIfInBounds_toArray, List.set_cons_zero, List.set_cons_succ, i64_w, i32_w]
       rfl
      refine take_ (i := 1) (N := some 16) (v := ?_) (a' := ?_) #[true, true, true, true, false, false, false] rfl rfl (by kernel_rfl) (fun _ _ _ h => h) (Or.inl ⟨by rfl, ?_⟩) hHeld ?_ ?_
      rotate_left
      ·rintro w' ⟨s0, s1⟩
       go_simp
       with_reducible rfl
      rotate_left
      ·simp only [Act.put, List.setIfInBounds_toArray, List.set_cons_zero, List.set_cons_succ, i64_w, i32_w]
       rfl
      refine one_ (i := 4) (N := some 19) #[true, true, true, true, true, false, false] rfl rfl (by kernel_rfl) (by decide) (fun K hK => ?_)
      refine goes_ Try.func60 (by kernel_rfl) rfl #[.int .i64 a1] (by rfl) rfl rfl (by (try simp only [List.map_toArray, List.map_cons, List.map_nil]); first | done | rfl | (simp only [List.length_drop, List.length_take]; rfl)) ?_
      with_reducible refine (impl_Mod.calls a1 t327 _ A12.out).mono ?_
      rintro e w' ⟨rfl, ⟨nd, rfl⟩⟩
      refine ⟨_, rfl, ?_⟩
      have p15 : 0 ≤ (x12_1 : Int) := ΩS_6 (by first | (with_reducible assumption) | assumption)
      have q15 : (x12_1 : Int) < ((x327001_1.length : Int) : Int) := ΩS_6 (by first | (with_reducible assumption) | assumption)
      obtain ⟨go15, co15, eo15, gb15, gl15, cl15, HG15⟩ := Kd.R_form HO_327001.out (by omega)
      (first | cases eo15 | (injection eo15 with ea_ en_ ec_; (first | subst ea_ | (injection ea_ with ea_; subst ea_)); subst ec_; clear en_))
      have GB15 := Ω5_6 gb15
      have GG15 := Ω5_6 HG15
      clear gb15 gl15 HG15
      obtain ⟨hx15_0, hf15_0⟩ := Kd.R_celln 0 HO_327001.out (x12_1 : Int) p15 q15
      replace p15 := eq_true p15
      replace q15 := eq_true q15
      have HP17 := Kd.R_putn HO_327001.out (x12_1 : Int) t327
      rw [← Ny328.out] at HP17
      have HQ17 := Ω5_6 HP17
      clear HP17
      refine hK.out _ _ ⟨(blk_cell BK326.out 0).trans rfl, (blk_cell BK326.out 1).trans rfl⟩ (fun hHeld => ?_)
      clear hK K
      refine norm_ (a' := ?_) ?_ ?_
      rotate_left
      ·show Act.put _ (some 19) _ = _
       simp only [Act.put, List.setIfInBounds_toArray, List.set_cons_zero, List.set_cons_succ, i64_w, i32_w]
       rfl
      refine pure_ (i := 5) (N := some 20) (v := ?_) (a' := ?_) #[true, true, true, true, true, true, false] rfl rfl (by kernel_rfl) (fun _ _ _ h => h) (Or.inl ⟨by rfl, ?_⟩) ?_ ?_
      rotate_left
      ·intro w'
       go_simp
       with_reducible rfl
      rotate_left
      ·simp only [Act.put, List.setIfInBounds_toArray, List.set_cons_zero, List.set_cons_succ, i64_w, i32_w]
       rfl
      refine last_ (i := 6) (N := none) #[true, true, true, true, true, true, true] rfl rfl (by kernel_rfl) (by decide) (fun K hK => ?_)
      refine skip_ (w1 := ?_) (by rfl) rfl ?_ ?_
      rotate_left
      ·go_simp
       rfl
      refine hK.out _ _ ?_
      clear hK K
      refine done_ (by kernel_rfl) ?_
      try go_wp2
      go_roundg k1
      case measure => have := HK1.out; omega
      case rel => exact ⟨(wrap64 (x12_1 + 1)), (x327000_1), (y328), (u327000), (.slice (some ⟨go15, 0, none⟩) x327001_1.length co15), (by first | rfl | (simp; done) | (simp [*]; done)), H', ⟨by have := HK1.out; omega⟩, ⟨by (with_reducible repeat (first | apply Kd.R_alloc | apply Kd.R_drewN | apply Kd.R_drew)); exact Kd.R_mono (Kd.R_far (p := ⟨go15, (x12_1 : Int).toNat, none⟩) (Kd.R_mono HO_327000.out (fun k_ hk => (⟨hk, fun e_ => hk (by rw [e_]; rfl)⟩ : _ ∧ k_ ≠ go15))) (fun _ hk => hk.2) (.int .i64 t327)) (fun _ hk => hk.1)⟩, ⟨by (with_reducible repeat (first | apply Kd.R_alloc | apply Kd.R_drewN | apply Kd.R_drew)); exact HQ17.out⟩, ⟨by (with_reducible repeat (first | refine blk_drewN ?_ _ | refine blk_drew ?_ | refine blk_alloc ?_ _)); refine blk_far ?_ (by have h_ := Kd.R_ne HO_327001.out BK319.out (by decide); intro e_; exact h_ (by rw [e_]; rfl)) _; (with_reducible repeat (first | refine blk_drewN ?_ _ | refine blk_drew ?_ | refine blk_alloc ?_ _)); exact BK319.out⟩, ⟨by (with_reducible repeat (first | refine blk_drewN ?_ _ | refine blk_drew ?_ | refine blk_alloc ?_ _)); refine blk_far ?_ (by have h_ := Kd.R_ne HO_327001.out BK326.out (by decide); intro e_; exact h_ (by rw [e_]; rfl)) _; (with_reducible repeat (first | refine blk_drewN ?_ _ | refine blk_drew ?_ | refine blk_alloc ?_ _)); exact BK326.out⟩, ⟨by repeat (first | (with_reducible first | exact HB.out | apply Ω6_6 | apply Ω7_6 | apply Ω8_6 | refine below_set ?_ GB15.out | refine below_set ?_ GE319.out | refine below_set ?_ GE326.out) | exact HB.out)⟩⟩
     ·rw [if_neg c14] at H
      exact absurd H (by simp)
    ·rw [if_neg c13] at H
     exact absurd H (by simp)
   ·rw [if_neg c11] at H
    have c11b0 : decide (x12_1 < (t323.length : Int)) = false := decide_eq_false c11
    clear c11
    simp only [Option.some.injEq, Prod.mk.injEq] at H
    obtain ⟨rfl, rfl⟩ := H
    have hnb18 := NB326_319.out
    have hnc18 := NB319_326.out
    have hcz19_0 : wr.cell? ⟨gb326, 0, none⟩ = some (u327000) := (blk_cell BK326.out 0).trans rfl
    have hcz19_1 : wr.cell? ⟨gb326, 1, none⟩ = some (u327001) := (blk_cell BK326.out 1).trans rfl
    have hfz19_0 := blk_frozen BK326.out 0
    have hfz19_1 := blk_frozen BK326.out 1
    obtain ⟨Ao20, co20, eo20⟩ := Kd.R_slice HO_327000.out
    subst eo20
    have hcz21_0 : wr.cell? ⟨gb319, 0, none⟩ = some (.slice none 0 0) := (blk_cell BK319.out 0).trans rfl
    have hcz21_1 : wr.cell? ⟨gb319, 1, none⟩ = some (.slice none 0 0) := (blk_cell BK319.out 1).trans rfl
    have hfz21_0 := blk_frozen BK319.out 0
    have hfz21_1 := blk_frozen BK319.out 1
    obtain ⟨Ao22, co22, eo22⟩ := Kd.R_slice HO_327001.out
    subst eo22
    go_wp2
    refine bodyPost_ret (results_cell_row rfl _ _ gb319 39 #[.slice Ao20 x327000_1.length co20, .slice Ao22 x327001_1.length co22] (0, 0) _ rfl (by (with_reducible repeat (first | refine blk_drewN ?_ _ | refine blk_drew ?_ | refine blk_alloc ?_ _)); refine blk_put (cs := #[.slice Ao20 x327000_1.length co20, .slice none 0 0]) ?_ 1 _ rfl; (with_reducible repeat (first | refine blk_drewN ?_ _ | refine blk_drew ?_ | refine blk_alloc ?_ _)); refine blk_put (cs := #[.slice none 0 0, .slice none 0 0]) ?_ 0 _ rfl; (with_reducible repeat (first | refine blk_drewN ?_ _ | refine blk_drew ?_ | refine blk_alloc ?_ _)); exact BK319.out) Try.underlying39 rfl (by kernel_rfl)) rfl ?_
    exact ⟨_, _, by first | rfl | (simp [errW_none, errW_some] <;> rfl) | (simp [*, errW_none, errW_some] <;> rfl), by (with_reducible repeat (first | apply Kd.R_alloc | apply Kd.R_drewN | apply Kd.R_drew)); exact Kd.R_mono (Kd.R_far (p := ⟨gb319, 1, none⟩) (Kd.R_far (p := ⟨gb319, 0, none⟩) (Kd.R_types HO_327000.out BK319.out (by decide)) (fun _ hk => hk.2) (.slice Ao20 x327000_1.length co20)) (fun _ hk => hk.2) (.slice Ao22 x327001_1.length co22)) (fun _ hk => hk.1), by (with_reducible repeat (first | apply Kd.R_alloc | apply Kd.R_drewN | apply Kd.R_drew)); exact Kd.R_mono (Kd.R_far (p := ⟨gb319, 1, none⟩) (Kd.R_far (p := ⟨gb319, 0, none⟩) (Kd.R_types HO_327001.out BK319.out (by decide)) (fun _ hk => hk.2) (.slice Ao20 x327000_1.length co20)) (fun _ hk => hk.2) (.slice Ao22 x327001_1.length co22)) (fun _ hk => hk.1), by repeat (first | (with_reducible first | exact HB.out | apply Ω6_6 | apply Ω7_6 | apply Ω8_6 | refine below_set ?_ GE319.out | refine below_set ?_ GE326.out) | exact HB.out)⟩

/-! ### spec_DimsOk: function 70 -/
def spec_DimsOk.f (k : Nat) (l0 : List Int) : Option (Bool) := if (l0.length : Int) ≤ 6 then ((spec_l3Size.f k l0).bind fun t329 => (some (decide (t329 > 0)))) else (some false)
theorem spec_DimsOk.mono : ∀ a0 k, LeO (spec_DimsOk.f k a0) (spec_DimsOk.f (k + 1) a0) := by
 intro a0 k
 unfold spec_DimsOk.f
 repeat' first
   | (with_reducible exact spec_l3Size.mono _ _)
   | (with_reducible exact LeO.refl _)
   | (with_reducible exact LeO.none _)
   | (with_reducible refine LeO.ite ?_ ?_)
   | (with_reducible refine LeO.bind ?_ (fun _ => ?_))
   | exact spec_l3Size.mono _ _
   | exact LeO.none _
   | refine LeO.ite ?_ ?_
   | refine LeO.bind ?_ (fun _ => ?_)
set_option maxHeartbeats 8000000 in
set_option maxRecDepth 100000 in
theorem spec_DimsOk.calls (k : Nat) (A0 : Option Addr) (c0 : Nat) (l0 : List Int) (r : Bool) (w : World) (hr0 : Kd.C (Kd.int .i64) w A0 l0.length l0) (hc0 : l0.length ≤ c0) (h : spec_DimsOk.f k l0 = some r) :
  Calls Try.prog 70 #[.slice A0 l0.length c0] w fun e w' => e = .returned (.bool r) ∧ Drawn0 w w' := by
 have HR0 := Ω5_6 hr0
 have HC0 := Ω5_6 hc0
 clear hr0 hc0
 have H : (if (l0.length : Int) ≤ 6 then ((spec_l3Size.f k l0).bind fun t329 => (some (decide (t329 > 0)))) else (some false)) = some r := h
 clear h
 by_cases c2 : (l0.length : Int) ≤ 6
 ·rw [if_pos c2] at H
  have c2b0 : decide ((l0.length : Int) ≤ 6) = true := decide_eq_true c2
  have c2b1 : decide (l0.length ≤ 6) = true := decide_eq_true (by omega)
  clear c2
  replace H := Option.bind_eq_some_iff.mp H
  obtain ⟨t329, A30, H⟩ := H
  try dsimp only at H
  have A3 := Ω5_6 A30
  clear A30
  obtain rfl := Option.some.inj H
  go_enter Try.func70, Try.ntmps70
  go_wp2_with (first | (go_at_call 86; (with_reducible refine (spec_l3Size.calls k _ _ l0 t329 _ ?side1 ?side2 A3.out).mono ?_); (case side1 => repeat (first | exact HR0.out | (with_reducible refine Kd.C_alloc ?_ _) | (with_reducible refine Kd.C_drewN ?_ _) | (with_reducible refine Kd.C_drew ?_))); (case side2 => exact HC0.out); rintro e w' ⟨rfl, ⟨nd, rfl⟩⟩))
  go_ret
  exact ⟨by first | rfl | (simp; done) | (simp [*]; done), by repeat (first | exact Drawn0.refl _ | apply Drawn0.step)⟩
 ·rw [if_neg c2] at H
  have c2b0 : decide ((l0.length : Int) ≤ 6) = false := decide_eq_false c2
  have c2b1 : decide (l0.length ≤ 6) = false := decide_eq_false (by omega)
  clear c2
  obtain rfl := Option.some.inj H
  go_enter Try.func70, Try.ntmps70
  go_wp2
  go_ret
  exact ⟨by first | rfl | (simp; done) | (simp [*]; done), by repeat (first | exact Drawn0.refl _ | apply Drawn0.step)⟩

/-! ### spec_TensorOk: function 61 -/
mutual
def spec_TensorOk.j0 : Nat → Bool → List Int → List Int → Option (Bool)
 | 0, _, _, _ => none
 | k + 1, x16, x331000, x331001 => if x16 = true then (some false) else (spec_TensorOk.l0 k 0 x331000 x331001)
def spec_TensorOk.l0 : Nat → Int → List Int → List Int → Option (Bool)
 | 0, _, _, _ => none
 | k + 1, x3, x331000, x331001 => if x3 < (x331001.length : Int) then (if 0 ≤ x3 then (if (rd x331001 x3) < 0 then (some false) else (if (rd x331001 x3) ≥ 2147483647 then (some false) else (spec_TensorOk.l0 k (wrap64 (x3 + 1)) x331000 x331001))) else (none)) else (some true)
end
def spec_TensorOk.f (k : Nat) (l0_0 : List Int) (l0_1 : List Int) : Option (Bool) := (spec_DimsOk.f k l0_0).bind fun t331 => (if t331 = true then ((spec_l3Size.f k l0_0).bind fun t332 => (spec_TensorOk.j0 k ((l0_1.length : Int) != t332) l0_0 l0_1)) else (spec_TensorOk.j0 k true l0_0 l0_1))
theorem spec_TensorOk.mono_l : ∀ k, (∀ y0 y1 y2, LeO (spec_TensorOk.j0 k y0 y1 y2) (spec_TensorOk.j0 (k + 1) y0 y1 y2)) ∧ (∀ y0 y1 y2, LeO (spec_TensorOk.l0 k y0 y1 y2) (spec_TensorOk.l0 (k + 1) y0 y1 y2))
 | 0 => ⟨fun _ _ _ r h => by simp [spec_TensorOk.j0] at h, fun _ _ _ r h => by simp [spec_TensorOk.l0] at h⟩
 | k + 1 => by
  obtain ⟨ih0, ih1⟩ := spec_TensorOk.mono_l k
  refine ⟨?_, ?_⟩
  ·intro y0 y1 y2
   unfold spec_TensorOk.j0
   repeat' first
   | (with_reducible exact ih0 _ _ _)
   | (with_reducible exact ih1 _ _ _)
   | (with_reducible exact spec_DimsOk.mono _ _)
   | (with_reducible exact spec_l3Size.mono _ _)
   | (with_reducible exact LeO.refl _)
   | (with_reducible exact LeO.none _)
   | (with_reducible refine LeO.ite ?_ ?_)
   | (with_reducible refine LeO.bind ?_ (fun _ => ?_))
   | exact ih0 _ _ _
   | exact ih1 _ _ _
   | exact spec_DimsOk.mono _ _
   | exact spec_l3Size.mono _ _
   | exact LeO.none _
   | refine LeO.ite ?_ ?_
   | refine LeO.bind ?_ (fun _ => ?_)
  ·intro y0 y1 y2
   unfold spec_TensorOk.l0
   repeat' first
   | (with_reducible exact ih0 _ _ _)
   | (with_reducible exact ih1 _ _ _)
   | (with_reducible exact spec_DimsOk.mono _ _)
   | (with_reducible exact spec_l3Size.mono _ _)
   | (with_reducible exact LeO.refl _)
   | (with_reducible exact LeO.none _)
   | (with_reducible refine LeO.ite ?_ ?_)
   | (with_reducible refine LeO.bind ?_ (fun _ => ?_))
   | exact ih0 _ _ _
   | exact ih1 _ _ _
   | exact spec_DimsOk.mono _ _
   | exact spec_l3Size.mono _ _
   | exact LeO.none _
   | refine LeO.ite ?_ ?_
   | refine LeO.bind ?_ (fun _ => ?_)
theorem spec_TensorOk.mono : ∀ a0 a1 k, LeO (spec_TensorOk.f k a0 a1) (spec_TensorOk.f (k + 1) a0 a1) := by
 intro a0 a1 k
 obtain ⟨ih0, ih1⟩ := spec_TensorOk.mono_l k
 unfold spec_TensorOk.f
 repeat' first
   | (with_reducible exact ih0 _ _ _)
   | (with_reducible exact ih1 _ _ _)
   | (with_reducible exact spec_DimsOk.mono _ _)
   | (with_reducible exact spec_l3Size.mono _ _)
   | (with_reducible exact LeO.refl _)
   | (with_reducible exact LeO.none _)
   | (with_reducible refine LeO.ite ?_ ?_)
   | (with_reducible refine LeO.bind ?_ (fun _ => ?_))
   | exact ih0 _ _ _
   | exact ih1 _ _ _
   | exact spec_DimsOk.mono _ _
   | exact spec_l3Size.mono _ _
   | exact LeO.none _
   | refine LeO.ite ?_ ?_
   | refine LeO.bind ?_ (fun _ => ?_)
set_option maxHeartbeats 8000000 in
set_option maxRecDepth 100000 in
theorem spec_TensorOk.calls (k : Nat) (A0_0 : Option Addr) (c0_0 : Nat) (l0_0 : List Int) (A0_1 : Option Addr) (c0_1 : Nat) (l0_1 : List Int) (r : Bool) (w : World) (hr0_0 : Kd.C (Kd.int .i64) w A0_0 l0_0.length l0_0) (hc0_0 : l0_0.length ≤ c0_0) (hr0_1 : Kd.C (Kd.int .i64) w A0_1 l0_1.length l0_1) (hc0_1 : l0_1.length ≤ c0_1) (h : spec_TensorOk.f k l0_0 l0_1 = some r) :
  Calls Try.prog 61 #[.agg #[.slice A0_0 l0_0.length c0_0, .slice A0_1 l0_1.length c0_1]] w fun e w' => e = .returned (.bool r) ∧ Below w.heap.size w w' := by
 have hu39 := Try.underlying39
 have HR0_0 := Ω5_6 hr0_0
 have HC0_0 := Ω5_6 hc0_0
 clear hr0_0 hc0_0
 have HR0_1 := Ω5_6 hr0_1
 have HC0_1 := Ω5_6 hc0_1
 clear hr0_1 hc0_1
 have HB := Ω5_6 (Below.refl w.heap.size w)
 have H : ((spec_DimsOk.f k l0_0).bind fun t331 => (if t331 = true then ((spec_l3Size.f k l0_0).bind fun t332 => (spec_TensorOk.j0 k ((l0_1.length : Int) != t332) l0_0 l0_1)) else (spec_TensorOk.j0 k true l0_0 l0_1))) = some r := h
 clear h
 have HC2 := Ω5_6 H
 clear H
 go_enter Try.func61, Try.ntmps61
 go_upto_region 1 with (first | ((with_reducible refine gate_dst (N := 1) rfl ?_); (try (refine gate_guard (by rfl) ?_; dsimp only)); refine box_event ?hg (N := 1) ?hd (cs := #[.slice A0_0 l0_0.length c0_0, .slice A0_1 l0_1.length c0_1]) (t := 39) ?hr ?_; (case hd => rfl); (case hg => rfl); (case hr => first | (go_simp; done) | (go_simp; rfl)); intro gb330 hg w3 hbox hb; have n0_ := Ω5_6 (below_step (by repeat (first | (with_reducible first | exact HB.out | apply Ω6_6 | apply Ω7_6 | apply Ω8_6) | exact HB.out)) hb); have n1_ := Ω5_6 (hbox); have n2_ := Ω5_6 ((by rw [hg]; exact (below_size (by repeat (first | (with_reducible first | exact HB.out | apply Ω6_6 | apply Ω7_6 | apply Ω8_6) | exact HB.out))) : w.heap.size ≤ gb330)); have n3_ := Ω5_6 ((by rw [hg]; exact (below_size (by repeat (first | (with_reducible first | exact HB.out | apply Ω6_6 | apply Ω7_6 | apply Ω8_6) | exact HB.out))) : w.heap.size ≤ gb330)); clear HB; have HB := n0_; have BK330 := n1_; have GW330 := n2_; have GE330 := n3_; clear n0_ n1_ n2_ n3_; clear hb hbox hg))
 repeat (go_quiet (first | ((with_reducible refine gate_dst (N := 1) rfl ?_); (try (refine gate_guard (by rfl) ?_; dsimp only)); refine box_event ?hg (N := 1) ?hd (cs := #[.slice A0_0 l0_0.length c0_0, .slice A0_1 l0_1.length c0_1]) (t := 39) ?hr ?_; (case hd => rfl); (case hg => rfl); (case hr => first | (go_simp; done) | (go_simp; rfl)); intro gb330 hg w3 hbox hb; have n0_ := Ω5_6 (below_step (by repeat (first | (with_reducible first | exact HB.out | apply Ω6_6 | apply Ω7_6 | apply Ω8_6) | exact HB.out)) hb); have n1_ := Ω5_6 (hbox); have n2_ := Ω5_6 ((by rw [hg]; exact (below_size (by repeat (first | (with_reducible first | exact HB.out | apply Ω6_6 | apply Ω7_6 | apply Ω8_6) | exact HB.out))) : w.heap.size ≤ gb330)); have n3_ := Ω5_6 ((by rw [hg]; exact (below_size (by repeat (first | (with_reducible first | exact HB.out | apply Ω6_6 | apply Ω7_6 | apply Ω8_6) | exact HB.out))) : w.heap.size ≤ gb330)); clear HB; have HB := n0_; have BK330 := n1_; have GW330 := n2_; have GE330 := n3_; clear n0_ n1_ n2_ n3_; clear hb hbox hg)); go_upto_region 1 with (first | ((with_reducible refine gate_dst (N := 1) rfl ?_); (try (refine gate_guard (by rfl) ?_; dsimp only)); refine box_event ?hg (N := 1) ?hd (cs := #[.slice A0_0 l0_0.length c0_0, .slice A0_1 l0_1.length c0_1]) (t := 39) ?hr ?_; (case hd => rfl); (case hg => rfl); (case hr => first | (go_simp; done) | (go_simp; rfl)); intro gb330 hg w3 hbox hb; have n0_ := Ω5_6 (below_step (by repeat (first | (with_reducible first | exact HB.out | apply Ω6_6 | apply Ω7_6 | apply Ω8_6) | exact HB.out)) hb); have n1_ := Ω5_6 (hbox); have n2_ := Ω5_6 ((by rw [hg]; exact (below_size (by repeat (first | (with_reducible first | exact HB.out | apply Ω6_6 | apply Ω7_6 | apply Ω8_6) | exact HB.out))) : w.heap.size ≤ gb330)); have n3_ := Ω5_6 ((by rw [hg]; exact (below_size (by repeat (first | (with_reducible first | exact HB.out | apply Ω6_6 | apply Ω7_6 | apply Ω8_6) | exact HB.out))) : w.heap.size ≤ gb330)); clear HB; have HB := n0_; have BK330 := n1_; have GW330 := n2_; have GE330 := n3_; clear n0_ n1_ n2_ n3_; clear hb hbox hg)))
 (try simp only [Act.put, List.setIfInBounds_toArray, List.set_cons_zero, List.set_cons_succ])
 go_cut [16] (fun v16 wc => ∃ (kq : Nat) (x16_1 : Bool), v16 = .bool x16_1 ∧ Aside0 (spec_TensorOk.j0 kq x16_1 l0_0 l0_1 = some r) ∧ Aside0 (kq ≤ k) ∧ Aside0 (wc.heap[gb330]? = some (.cells #[(.slice A0_0 l0_0.length c0_0), (.slice A0_1 l0_1.length c0_1)] 39 (0, 0))) ∧ Aside0 (Below w.heap.size w wc))
 case first =>
  have H := HC2.out
  clear HC2
  replace H := Option.bind_eq_some_iff.mp H
  obtain ⟨t331, A40, H⟩ := H
  try dsimp only at H
  have A4 := Ω5_6 A40
  clear A40
  by_cases c5 : t331 = true
  ·subst c5
   have H1 : ((spec_l3Size.f k l0_0).bind fun t332 => (spec_TensorOk.j0 k ((l0_1.length : Int) != t332) l0_0 l0_1)) = some r := by rw [if_pos rfl] at H; exact H
   clear H
   have H := H1
   clear H1
   replace H := Option.bind_eq_some_iff.mp H
   obtain ⟨t332, A60, H⟩ := H
   try dsimp only at H
   have A6 := Ω5_6 A60
   clear A60
   have H' := Ω5_6 H
   clear H
   have hcz7_0 : w3.cell? ⟨gb330, 0, none⟩ = some (.slice A0_0 l0_0.length c0_0) := (blk_cell BK330.out 0).trans rfl
   have hcz7_1 : w3.cell? ⟨gb330, 1, none⟩ = some (.slice A0_1 l0_1.length c0_1) := (blk_cell BK330.out 1).trans rfl
   have hfz7_0 := blk_frozen BK330.out 0
   have hfz7_1 := blk_frozen BK330.out 1
   go_wp2_with (first | (go_at_call 70; (with_reducible refine (spec_DimsOk.calls k _ _ l0_0 true _ ?side1 ?side2 A4.out).mono ?_); (case side1 => repeat (first | exact (Kd.C_below HR0_0.out HB.out) | (with_reducible refine Kd.C_alloc ?_ _) | (with_reducible refine Kd.C_drewN ?_ _) | (with_reducible refine Kd.C_drew ?_))); (case side2 => exact HC0_0.out); rintro e w' ⟨rfl, ⟨nd, rfl⟩⟩; (try first | exact ⟨rfl, _, World.drewN_drewN _ _ _⟩ | exact ⟨rfl, _, Eq.trans (World.drewN_drewN _ _ _) (congrArg (World.drewN _) (Nat.add_assoc _ _ _))⟩)) | (go_at_call 86; (with_reducible refine (spec_l3Size.calls k _ _ l0_0 t332 _ ?side1 ?side2 A6.out).mono ?_); (case side1 => repeat (first | exact (Kd.C_below HR0_0.out (by repeat (first | (with_reducible first | exact HB.out | apply Ω6_6 | apply Ω7_6 | apply Ω8_6 | refine below_set ?_ GE330.out) | exact HB.out))) | (with_reducible refine Kd.C_alloc ?_ _) | (with_reducible refine Kd.C_drewN ?_ _) | (with_reducible refine Kd.C_drew ?_))); (case side2 => exact HC0_0.out); rintro e w' ⟨rfl, ⟨nd, rfl⟩⟩; (try first | exact ⟨rfl, _, World.drewN_drewN _ _ _⟩ | exact ⟨rfl, _, Eq.trans (World.drewN_drewN _ _ _) (congrArg (World.drewN _) (Nat.add_assoc _ _ _))⟩)))
   repeat (go_quiet (first | (go_at_call 70; (with_reducible refine (spec_DimsOk.calls k _ _ l0_0 true _ ?side1 ?side2 A4.out).mono ?_); (case side1 => repeat (first | exact (Kd.C_below HR0_0.out HB.out) | (with_reducible refine Kd.C_alloc ?_ _) | (with_reducible refine Kd.C_drewN ?_ _) | (with_reducible refine Kd.C_drew ?_))); (case side2 => exact HC0_0.out); rintro e w' ⟨rfl, ⟨nd, rfl⟩⟩; (try first | exact ⟨rfl, _, World.drewN_drewN _ _ _⟩ | exact ⟨rfl, _, Eq.trans (World.drewN_drewN _ _ _) (congrArg (World.drewN _) (Nat.add_assoc _ _ _))⟩)) | (go_at_call 86; (with_reducible refine (spec_l3Size.calls k _ _ l0_0 t332 _ ?side1 ?side2 A6.out).mono ?_); (case side1 => repeat (first | exact (Kd.C_below HR0_0.out (by repeat (first | (with_reducible first | exact HB.out | apply Ω6_6 | apply Ω7_6 | apply Ω8_6 | refine below_set ?_ GE330.out) | exact HB.out))) | (with_reducible refine Kd.C_alloc ?_ _) | (with_reducible refine Kd.C_drewN ?_ _) | (with_reducible refine Kd.C_drew ?_))); (case side2 => exact HC0_0.out); rintro e w' ⟨rfl, ⟨nd, rfl⟩⟩; (try first | exact ⟨rfl, _, World.drewN_drewN _ _ _⟩ | exact ⟨rfl, _, Eq.trans (World.drewN_drewN _ _ _) (congrArg (World.drewN _) (Nat.add_assoc _ _ _))⟩))); try go_wp2_with (first | (go_at_call 70; (with_reducible refine (spec_DimsOk.calls k _ _ l0_0 true _ ?side1 ?side2 A4.out).mono ?_); (case side1 => repeat (first | exact (Kd.C_below HR0_0.out HB.out) | (with_reducible refine Kd.C_alloc ?_ _) | (with_reducible refine Kd.C_drewN ?_ _) | (with_reducible refine Kd.C_drew ?_))); (case side2 => exact HC0_0.out); rintro e w' ⟨rfl, ⟨nd, rfl⟩⟩; (try first | exact ⟨rfl, _, World.drewN_drewN _ _ _⟩ | exact ⟨rfl, _, Eq.trans (World.drewN_drewN _ _ _) (congrArg (World.drewN _) (Nat.add_assoc _ _ _))⟩)) | (go_at_call 86; (with_reducible refine (spec_l3Size.calls k _ _ l0_0 t332 _ ?side1 ?side2 A6.out).mono ?_); (case side1 => repeat (first | exact (Kd.C_below HR0_0.out (by repeat (first | (with_reducible first | exact HB.out | apply Ω6_6 | apply Ω7_6 | apply Ω8_6 | refine below_set ?_ GE330.out) | exact HB.out))) | (with_reducible refine Kd.C_alloc ?_ _) | (with_reducible refine Kd.C_drewN ?_ _) | (with_reducible refine Kd.C_drew ?_))); (case side2 => exact HC0_0.out); rintro e w' ⟨rfl, ⟨nd, rfl⟩⟩; (try first | exact ⟨rfl, _, World.drewN_drewN _ _ _⟩ | exact ⟨rfl, _, Eq.trans (World.drewN_drewN _ _ _) (congrArg (World.drewN _) (Nat.add_assoc _ _ _))⟩))))
   go_meet
   case rel => exact ⟨_, (((l0_1.length : Int) != t332)), (by first | rfl | (simp; done) | (simp [*]; done)), H', ⟨by first | omega | exact Nat.le_refl _⟩, ⟨by (with_reducible repeat (first | refine blk_drewN ?_ _ | refine blk_drew ?_ | refine blk_alloc ?_ _)); exact BK330.out⟩, ⟨by repeat (first | (with_reducible first | exact HB.out | apply Ω6_6 | apply Ω7_6 | apply Ω8_6 | refine below_set ?_ GE330.out) | exact HB.out)⟩⟩
  ·replace c5 := Bool.eq_false_iff.mpr c5
   subst c5
   have H1 : (spec_TensorOk.j0 k true l0_0 l0_1) = some r := by rw [if_neg (show ¬ (false = true) by decide)] at H; exact H
   clear H
   have H := H1
   clear H1
   have H' := Ω5_6 H
   clear H
   have hcz8_0 : w3.cell? ⟨gb330, 0, none⟩ = some (.slice A0_0 l0_0.length c0_0) := (blk_cell BK330.out 0).trans rfl
   have hcz8_1 : w3.cell? ⟨gb330, 1, none⟩ = some (.slice A0_1 l0_1.length c0_1) := (blk_cell BK330.out 1).trans rfl
   have hfz8_0 := blk_frozen BK330.out 0
   have hfz8_1 := blk_frozen BK330.out 1
   go_wp2_with (first | (go_at_call 70; (with_reducible refine (spec_DimsOk.calls k _ _ l0_0 false _ ?side1 ?side2 A4.out).mono ?_); (case side1 => repeat (first | exact (Kd.C_below HR0_0.out HB.out) | (with_reducible refine Kd.C_alloc ?_ _) | (with_reducible refine Kd.C_drewN ?_ _) | (with_reducible refine Kd.C_drew ?_))); (case side2 => exact HC0_0.out); rintro e w' ⟨rfl, ⟨nd, rfl⟩⟩; (try first | exact ⟨rfl, _, World.drewN_drewN _ _ _⟩ | exact ⟨rfl, _, Eq.trans (World.drewN_drewN _ _ _) (congrArg (World.drewN _) (Nat.add_assoc _ _ _))⟩)))
   repeat (go_quiet (first | (go_at_call 70; (with_reducible refine (spec_DimsOk.calls k _ _ l0_0 false _ ?side1 ?side2 A4.out).mono ?_); (case side1 => repeat (first | exact (Kd.C_below HR0_0.out HB.out) | (with_reducible refine Kd.C_alloc ?_ _) | (with_reducible refine Kd.C_drewN ?_ _) | (with_reducible refine Kd.C_drew ?_))); (case side2 => exact HC0_0.out); rintro e w' ⟨rfl, ⟨nd, rfl⟩⟩; (try first | exact ⟨rfl, _, World.drewN_drewN _ _ _⟩ | exact ⟨rfl, _, Eq.trans (World.drewN_drewN _ _ _) (congrArg (World.drewN _) (Nat.add_assoc _ _ _))⟩))); try go_wp2_with (first | (go_at_call 70; (with_reducible refine (spec_DimsOk.calls k _ _ l0_0 false _ ?side1 ?side2 A4.out).mono ?_); (case side1 => repeat (first | exact (Kd.C_below HR0_0.out HB.out) | (with_reducible refine Kd.C_alloc ?_ _) | (with_reducible refine Kd.C_drewN ?_ _) | (with_reducible refine Kd.C_drew ?_))); (case side2 => exact HC0_0.out); rintro e w' ⟨rfl, ⟨nd, rfl⟩⟩; (try first | exact ⟨rfl, _, World.drewN_drewN _ _ _⟩ | exact ⟨rfl, _, Eq.trans (World.drewN_drewN _ _ _) (congrArg (World.drewN _) (Nat.add_assoc _ _ _))⟩))))
   go_meet
   case rel => exact ⟨_, (true), (by first | rfl | (simp; done) | (simp [*]; done)), H', ⟨by first | omega | exact Nat.le_refl _⟩, ⟨by (with_reducible repeat (first | refine blk_drewN ?_ _ | refine blk_drew ?_ | refine blk_alloc ?_ _)); exact BK330.out⟩, ⟨by repeat (first | (with_reducible first | exact HB.out | apply Ω6_6 | apply Ω7_6 | apply Ω8_6 | refine below_set ?_ GE330.out) | exact HB.out)⟩⟩
 case rest =>
  clear HC2
  try clear p2
  try clear c5
  try clear c6
  try clear hcz7_0
  try clear hcz7_1
  try clear hcz8_0
  try clear hcz8_1
  try clear hfz7_0
  try clear hfz7_1
  try clear hfz8_0
  try clear hfz8_1
  obtain ⟨kq, x16_1, rfl, HA, HJ1, BK330, HB⟩ := hcut
  cases kq with
  | zero => exact absurd HA.out (by simp [spec_TensorOk.j0])
  | succ kj1 =>
   have H := HA.out
   clear HA
   simp only [spec_TensorOk.j0] at H
   by_cases c9 : x16_1 = true
   ·subst c9
    have H1 : (some false) = some r := by rw [if_pos rfl] at H; exact H
    clear H
    have H := H1
    clear H1
    obtain rfl := Option.some.inj H
    go_wp2
    repeat (go_quiet (fail); try go_wp2)
    go_ret
    exact ⟨by first | rfl | (simp [errW_none, errW_some] <;> rfl) | (simp [*, errW_none, errW_some] <;> rfl), by repeat (first | (with_reducible first | exact HB.out | apply Ω6_6 | apply Ω7_6 | apply Ω8_6 | refine below_set ?_ GE330.out) | exact HB.out)⟩
   ·replace c9 := Bool.eq_false_iff.mpr c9
    subst c9
    have H1 : (spec_TensorOk.l0 kj1 0 l0_0 l0_1) = some r := by rw [if_neg (show ¬ (false = true) by decide)] at H; exact H
    clear H
    have H := H1
    clear H1
    have H' := Ω5_6 H
    clear H
    go_wp2
    repeat (go_quiet (fail); try go_wp2)
    go_loopg [3] kj1 (fun kq v3 w' => ∃ (x3_2 : Int), v3 = .int .i64 x3_2 ∧ Aside0 (spec_TensorOk.l0 kq x3_2 l0_0 l0_1 = some r) ∧ Aside0 (kq ≤ kj1) ∧ Aside0 (w'.heap[gb330]? = some (.cells #[(.slice A0_0 l0_0.length c0_0), (.slice A0_1 l0_1.length c0_1)] 39 (0, 0))) ∧ Aside0 (Below w.heap.size w w'))
    case atStart => exact ⟨(0), (by first | rfl | (simp; done) | (simp [*]; done)), H', ⟨Nat.le_refl _⟩, ⟨by (with_reducible repeat (first | refine blk_drewN ?_ _ | refine blk_drew ?_ | refine blk_alloc ?_ _)); exact BK330.out⟩, ⟨by repeat (first | (with_reducible first | exact HB.out | apply Ω6_6 | apply Ω7_6 | apply Ω8_6 | refine below_set ?_ GE330.out) | exact HB.out)⟩⟩
    case round =>
     clear H'
     try clear p2
     try clear c5
     try clear c6
     try clear c9
     try clear hcz7_0
     try clear hcz7_1
     try clear hcz8_0
     try clear hcz8_1
     try clear hfz7_0
     try clear hfz7_1
     try clear hfz8_0
     try clear hfz8_1
     try clear p2
     obtain ⟨x3_2, rfl, HA, HK2, BK330, HB⟩ := hrel
     cases gk with
     | zero => exact absurd HA.out (by simp [spec_TensorOk.l0])
     | succ k2 =>
      have H := HA.out
      clear HA
      simp only [spec_TensorOk.l0] at H
      by_cases c10 : x3_2 < (l0_1.length : Int)
      ·rw [if_pos c10] at H
       have c10b0 : decide (x3_2 < (l0_1.length : Int)) = true := decide_eq_true c10
       clear c10
       by_cases c11 : 0 ≤ x3_2
       ·rw [if_pos c11] at H
        have c11b0 : decide (0 ≤ x3_2) = true := decide_eq_true c11
        clear c11
        by_cases c12 : (rd l0_1 x3_2) < 0
        ·rw [if_pos c12] at H
         have c12b0 : decide ((rd l0_1 x3_2) < 0) = true := decide_eq_true c12
         clear c12
         obtain rfl := Option.some.inj H
         have hcz13_0 : wr.cell? ⟨gb330, 0, none⟩ = some (.slice A0_0 l0_0.length c0_0) := (blk_cell BK330.out 0).trans rfl
         have hcz13_1 : wr.cell? ⟨gb330, 1, none⟩ = some (.slice A0_1 l0_1.length c0_1) := (blk_cell BK330.out 1).trans rfl
         have hfz13_0 := blk_frozen BK330.out 0
         have hfz13_1 := blk_frozen BK330.out 1
         have p333 : 0 ≤ (x3_2 : Int) := ΩS_6 (by first | (with_reducible assumption) | assumption)
         have q333 : x3_2 < (l0_1.length : Int) := ΩS_6 (by first | (with_reducible assumption) | assumption)
         obtain ⟨ad333, e333, hx333_0⟩ := Kd.at_int HR0_1.out x3_2 p333 q333
         cases e333
         replace hx333_0 := (HB.out.cell (World.block_lt_of_cell? w _ hx333_0)).trans hx333_0
         replace p333 := eq_true p333
         replace q333 := eq_true q333
         go_wp2
         repeat (go_quiet (fail); try go_wp2)
         go_ret
         exact ⟨by first | rfl | (simp [errW_none, errW_some] <;> rfl) | (simp [*, errW_none, errW_some] <;> rfl), by repeat (first | (with_reducible first | exact HB.out | apply Ω6_6 | apply Ω7_6 | apply Ω8_6 | refine below_set ?_ GE330.out) | exact HB.out)⟩
        ·rw [if_neg c12] at H
         have c12b0 : decide ((rd l0_1 x3_2) < 0) = false := decide_eq_false c12
         clear c12
         by_cases c14 : (rd l0_1 x3_2) ≥ 2147483647
         ·rw [if_pos c14] at H
          have c14b0 : decide (2147483647 ≤ (rd l0_1 x3_2)) = true := decide_eq_true c14
          clear c14
          obtain rfl := Option.some.inj H
          have hcz15_0 : wr.cell? ⟨gb330, 0, none⟩ = some (.slice A0_0 l0_0.length c0_0) := (blk_cell BK330.out 0).trans rfl
          have hcz15_1 : wr.cell? ⟨gb330, 1, none⟩ = some (.slice A0_1 l0_1.length c0_1) := (blk_cell BK330.out 1).trans rfl
          have hfz15_0 := blk_frozen BK330.out 0
          have hfz15_1 := blk_frozen BK330.out 1
          have p333 : 0 ≤ (x3_2 : Int) := ΩS_6 (by first | (with_reducible assumption) | assumption)
          have q333 : x3_2 < (l0_1.length : Int) := ΩS_6 (by first | (with_reducible assumption) | assumption)
          obtain ⟨ad333, e333, hx333_0⟩ := Kd.at_int HR0_1.out x3_2 p333 q333
          cases e333
          replace hx333_0 := (HB.out.cell (World.block_lt_of_cell? w _ hx333_0)).trans hx333_0
          replace p333 := eq_true p333
          replace q333 := eq_true q333
          have p334 : 0 ≤ (x3_2 : Int) := ΩS_6 (by first | (with_reducible assumption) | assumption)
          have q334 : x3_2 < (l0_1.length : Int) := ΩS_6 (by first | (with_reducible assumption) | assumption)
          obtain ⟨ad334, e334, hx334_0⟩ := Kd.at_int HR0_1.out x3_2 p334 q334
          obtain rfl : ad333 = ad334 := (by injection e334)
          replace hx334_0 := (HB.out.cell (World.block_lt_of_cell? w _ hx334_0)).trans hx334_0
          replace p334 := eq_true p334
          replace q334 := eq_true q334
          go_wp2
          repeat (go_quiet (fail); try go_wp2)
          go_ret
          exact ⟨by first | rfl | (simp [errW_none, errW_some] <;> rfl) | (simp [*, errW_none, errW_some] <;> rfl), by repeat (first | (with_reducible first | exact HB.out | apply Ω6_6 | apply Ω7_6 | apply Ω8_6 | refine below_set ?_ GE330.out) | exact HB.out)⟩
         ·rw [if_neg c14] at H
          have c14b0 : decide (2147483647 ≤ (rd l0_1 x3_2)) = false := decide_eq_false c14
          clear c14
          have H' := Ω5_6 H
          clear H
          have hcz16_0 : wr.cell? ⟨gb330, 0, none⟩ = some (.slice A0_0 l0_0.length c0_0) := (blk_cell BK330.out 0).trans rfl
          have hcz16_1 : wr.cell? ⟨gb330, 1, none⟩ = some (.slice A0_1 l0_1.length c0_1) := (blk_cell BK330.out 1).trans rfl
          have hfz16_0 := blk_frozen BK330.out 0
          have hfz16_1 := blk_frozen BK330.out 1
          have p333 : 0 ≤ (x3_2 : Int) := ΩS_6 (by first | (with_reducible assumption) | assumption)
          have q333 : x3_2 < (l0_1.length : Int) := ΩS_6 (by first | (with_reducible assumption) | assumption)
          obtain ⟨ad333, e333, hx333_0⟩ := Kd.at_int HR0_1.out x3_2 p333 q333
          cases e333
          replace hx333_0 := (HB.out.cell (World.block_lt_of_cell? w _ hx333_0)).trans hx333_0
          replace p333 := eq_true p333
          replace q333 := eq_true q333
          have p334 : 0 ≤ (x3_2 : Int) := ΩS_6 (by first | (with_reducible assumption) | assumption)
          have q334 : x3_2 < (l0_1.length : Int) := ΩS_6 (by first | (with_reducible assumption) | assumption)
          obtain ⟨ad334, e334, hx334_0⟩ := Kd.at_int HR0_1.out x3_2 p334 q334
          obtain rfl : ad333 = ad334 := (by injection e334)
          replace hx334_0 := (HB.out.cell (World.block_lt_of_cell? w _ hx334_0)).trans hx334_0
          replace p334 := eq_true p334
          replace q334 := eq_true q334
          go_wp2
          repeat (go_quiet (fail); try go_wp2)
          go_roundg k2
          case measure => have := HJ1.out; have := HK2.out; omega
          case rel => exact ⟨(wrap64 (x3_2 + 1)), (by first | rfl | (simp; done) | (simp [*]; done)), H', ⟨by have := HJ1.out; have := HK2.out; omega⟩, ⟨by (with_reducible repeat (first | refine blk_drewN ?_ _ | refine blk_drew ?_ | refine blk_alloc ?_ _)); exact BK330.out⟩, ⟨by repeat (first | (with_reducible first | exact HB.out | apply Ω6_6 | apply Ω7_6 | apply Ω8_6 | refine below_set ?_ GE330.out) | exact HB.out)⟩⟩
       ·rw [if_neg c11] at H
        exact absurd H (by simp)
      ·rw [if_neg c10] at H
       have c10b0 : decide (x3_2 < (l0_1.length : Int)) = false := decide_eq_false c10
       clear c10
       obtain rfl := Option.some.inj H
       have hcz17_0 : wr.cell? ⟨gb330, 0, none⟩ = some (.slice A0_0 l0_0.length c0_0) := (blk_cell BK330.out 0).trans rfl
       have hcz17_1 : wr.cell? ⟨gb330, 1, none⟩ = some (.slice A0_1 l0_1.length c0_1) := (blk_cell BK330.out 1).trans rfl
       have hfz17_0 := blk_frozen BK330.out 0
       have hfz17_1 := blk_frozen BK330.out 1
       go_wp2
       repeat (go_quiet (fail); try go_wp2)
       go_ret
       exact ⟨by first | rfl | (simp [errW_none, errW_some] <;> rfl) | (simp [*, errW_none, errW_some] <;> rfl), by repeat (first | (with_reducible first | exact HB.out | apply Ω6_6 | apply Ω7_6 | apply Ω8_6 | refine below_set ?_ GE330.out) | exact HB.out)⟩

/-! ### spec_l5In: function 62 -/
def spec_l5In.f (a0 : Int) (a1 : Int) (a2 : Int) : Option (Bool) := if a0 ≥ a1 then (some (decide (a0 ≤ a2))) else (some false)
set_option maxHeartbeats 8000000 in
set_option maxRecDepth 100000 in
theorem spec_l5In.calls (a0 : Int) (a1 : Int) (a2 : Int) (r : Bool) (w : World) (h : spec_l5In.f a0 a1 a2 = some r) :
  Calls Try.prog 62 #[.int .i64 a0, .int .i64 a1, .int .i64 a2] w fun e w' => e = .returned (.bool r) ∧ Drawn0 w w' := by
 have H : (if a0 ≥ a1 then (some (decide (a0 ≤ a2))) else (some false)) = some r := h
 clear h
 by_cases c4 : a0 ≥ a1
 ·rw [if_pos c4] at H
  have c4b0 : decide (a1 ≤ a0) = true := decide_eq_true c4
  clear c4
  obtain rfl := Option.some.inj H
  go_enter Try.func62, Try.ntmps62
  go_wp2
  go_ret
  exact ⟨by first | rfl | (simp; done) | (simp [*]; done), by repeat (first | exact Drawn0.refl _ | apply Drawn0.step)⟩
 ·rw [if_neg c4] at H
  have c4b0 : decide (a1 ≤ a0) = false := decide_eq_false c4
  clear c4
  obtain rfl := Option.some.inj H
  go_enter Try.func62, Try.ntmps62
  go_wp2
  go_ret
  exact ⟨by first | rfl | (simp; done) | (simp [*]; done), by repeat (first | exact Drawn0.refl _ | apply Drawn0.step)⟩

/-! ### spec_l5Row: function 63 -/
def spec_l5Row.f (l0_0 : List Int) (l0_1 : List Int) (a1 : Int) : Option (List Int) := if 1 < (l0_0.length : Int) then (if 0 ≤ (wrap64 (a1 * (rd l0_0 1))) then (if (wrap64 (a1 * (rd l0_0 1))) ≤ (wrap64 ((wrap64 (a1 * (rd l0_0 1))) + (rd l0_0 1))) then (if (wrap64 ((wrap64 (a1 * (rd l0_0 1))) + (rd l0_0 1))) ≤ (l0_1.length : Int) then (some ((l0_1.take ((wrap64 ((wrap64 (a1 * (rd l0_0 1))) + (rd l0_0 1))) : Int).toNat).drop ((wrap64 (a1 * (rd l0_0 1))) : Int).toNat)) else (none)) else (none)) else (none)) else (none)
set_option maxHeartbeats 8000000 in
set_option maxRecDepth 100000 in
theorem spec_l5Row.calls (A0_0 : Option Addr) (c0_0 : Nat) (l0_0 : List Int) (P0_1_ : Nat → Prop) (A0_1 : Option Addr) (c0_1 : Nat) (l0_1 : List Int) (a1 : Int) (r : List Int) (w : World) (hr0_0 : Kd.C (Kd.int .i64) w A0_0 l0_0.length l0_0) (hc0_0 : l0_0.length ≤ c0_0) (hs0_1 : Kd.V (Kd.int .i64) 3 w w.heap.size (fun k_ => P0_1_ k_) (.slice A0_1 l0_1.length c0_1) l0_1) (h : spec_l5Row.f l0_0 l0_1 a1 = some r) :
  Calls Try.prog 63 #[.agg #[.slice A0_0 l0_0.length c0_0, .slice A0_1 l0_1.length c0_1], .int .i64 a1] w fun e w' => ∃ v0_ : Value, e = .returned (v0_) ∧ Kd.V (Kd.int .i64) 3 w' w.heap.size (fun k_ => (P0_1_ k_ ∨ w.heap.size ≤ k_)) v0_ r ∧ Below w.heap.size w w' := by
 have hu39 := Try.underlying39
 have HR0_0 := Ω5_6 hr0_0
 have HC0_0 := Ω5_6 hc0_0
 clear hr0_0 hc0_0
 have HO0_1 := Ω5_6 (show Kd.V (Kd.int .i64) 3 w w.heap.size (fun k_ => (P0_1_ k_ ∨ w.heap.size ≤ k_)) (.slice A0_1 l0_1.length c0_1) l0_1 from Kd.V_mono hs0_1 (fun k_ hk => .inl hk))
 have HB := Ω5_6 (Below.refl w.heap.size w)
 have H : (if 1 < (l0_0.length : Int) then (if 0 ≤ (wrap64 (a1 * (rd l0_0 1))) then (if (wrap64 (a1 * (rd l0_0 1))) ≤ (wrap64 ((wrap64 (a1 * (rd l0_0 1))) + (rd l0_0 1))) then (if (wrap64 ((wrap64 (a1 * (rd l0_0 1))) + (rd l0_0 1))) ≤ (l0_1.length : Int) then (some ((l0_1.take ((wrap64 ((wrap64 (a1 * (rd l0_0 1))) + (rd l0_0 1))) : Int).toNat).drop ((wrap64 (a1 * (rd l0_0 1))) : Int).toNat)) else (none)) else (none)) else (none)) else (none)) = some r := h
 clear h
 by_cases c3 : 1 < (l0_0.length : Int)
 ·rw [if_pos c3] at H
  have c3b0 : decide (1 < (l0_0.length : Int)) = true := decide_eq_true c3
  have c3b1 : decide (1 < l0_0.length) = true := decide_eq_true (by omega)
  clear c3
  obtain ⟨ji4, hji4⟩ : ∃ j_ : Int, (wrap64 (a1 * (rd l0_0 1))) = j_ := ⟨_, rfl⟩
  replace H : (if 0 ≤ (ji4) then (if (ji4) ≤ (wrap64 ((ji4) + (rd l0_0 1))) then (if (wrap64 ((ji4) + (rd l0_0 1))) ≤ (l0_1.length : Int) then (some ((l0_1.take ((wrap64 ((ji4) + (rd l0_0 1))) : Int).toNat).drop ((ji4) : Int).toNat)) else (none)) else (none)) else (none)) = some r := by first | (rw [hji4] at H; exact H) | (simp only [hji4] at H ⊢; exact H)
  have hji4w : (IntKind.i64.wrap (a1 * (rd l0_0 1))) = ji4 := (i64_w _).trans hji4
  by_cases c5 : 0 ≤ (ji4)
  ·rw [if_pos c5] at H
   have c5b0 := eq_true c5
   have c5b1 : decide (0 ≤ (ji4)) = true := decide_eq_true c5
   clear c5
   by_cases c6 : (ji4) ≤ (wrap64 ((ji4) + (rd l0_0 1)))
   ·rw [if_pos c6] at H
    have c6b0 := eq_true c6
    have c6b1 : decide ((ji4) ≤ (wrap64 ((ji4) + (rd l0_0 1)))) = true := decide_eq_true c6
    by_cases c7 : (wrap64 ((ji4) + (rd l0_0 1))) ≤ (l0_1.length : Int)
    ·rw [if_pos c7] at H
     have c7b0 := eq_true c7
     have c7b1 : decide ((wrap64 ((ji4) + (rd l0_0 1))) ≤ (l0_1.length : Int)) = true := decide_eq_true c7
     obtain ⟨y337, hy337⟩ : ∃ y_ : List Int, y_ = ((l0_1.take ((wrap64 ((ji4) + (rd l0_0 1))) : Int).toNat).drop ((ji4) : Int).toNat) := ⟨_, rfl⟩
     replace H : (some y337) = some r := by first | (rw [hy337]; with_reducible exact H) | (have H2_ := (Option.bind_some _ _).symm.trans H; rw [hy337]; with_reducible exact H2_) | (have H2_ := (Option.bind_some _ _).symm.trans H; with_reducible exact H2_) | with_reducible exact H | (rw [hy337]; exact H) | exact H
     have Ny337 := Ω5_6 hy337
     clear hy337
     obtain rfl := Option.some.inj H
     go_enter Try.func63, Try.ntmps63
     go_wp2_with (first | ((with_reducible refine gate_dst (N := 2) rfl ?_); refine box_event ?hg (N := 2) ?hd (cs := #[.slice A0_0 l0_0.length c0_0, .slice A0_1 l0_1.length c0_1]) (t := 39) ?hr ?_; (case hd => rfl); (case hg => rfl); (case hr => first | (go_simp; done) | (go_simp; rfl)); intro gb335 hg w8 hbox hb; have n0_ := Ω5_6 (Kd.V_below (Kd.V_elderB (by (with_reducible repeat (first | apply Kd.V_alloc | apply Kd.V_drewN | apply Kd.V_drew)); exact HO0_1.out) gb335 (Nat.le_of_eq hg.symm)) hb); have n1_ := Ω5_6 (below_step (by repeat (first | (with_reducible first | exact HB.out | apply Ω6_6 | apply Ω7_6 | apply Ω8_6) | exact HB.out)) hb); have n2_ := Ω5_6 (hbox); have n3_ := Ω5_6 ((by rw [hg]; exact (below_size (by repeat (first | (with_reducible first | exact HB.out | apply Ω6_6 | apply Ω7_6 | apply Ω8_6) | exact HB.out))) : w.heap.size ≤ gb335)); have n4_ := Ω5_6 ((by rw [hg]; exact (below_size (by repeat (first | (with_reducible first | exact HB.out | apply Ω6_6 | apply Ω7_6 | apply Ω8_6) | exact HB.out))) : w.heap.size ≤ gb335)); clear HO0_1; clear HB; have HO0_1 := n0_; have HB := n1_; have BK335 := n2_; have GW335 := n3_; have GE335 := n4_; clear n0_ n1_ n2_ n3_ n4_; clear hb hbox hg; have hcz9_0 : w8.cell? ⟨gb335, 0, none⟩ = some (.slice A0_0 l0_0.length c0_0) := (blk_cell BK335.out 0).trans rfl; have hcz9_1 : w8.cell? ⟨gb335, 1, none⟩ = some (.slice A0_1 l0_1.length c0_1) := (blk_cell BK335.out 1).trans rfl; have hfz9_0 := blk_frozen BK335.out 0; have hfz9_1 := blk_frozen BK335.out 1; have p336 : 0 ≤ (1 : Int) := (by omega); have q336 : 1 < (l0_0.length : Int) := ΩS_6 (by first | (with_reducible assumption) | assumption); obtain ⟨ad336, e336, hx336_0⟩ := Kd.at_int HR0_0.out 1 p336 q336; cases e336; (try simp only [show (1 : Int).toNat = 1 from rfl, Nat.reduceMul, Nat.reduceEqDiff, Go.Addr.add, ↓reduceIte] at hx336_0); have qi336 : (1 < l0_0.length) = True := eq_true (by omega); (try rw [show ((1 : Int)).toNat = 1 from rfl] at hx336_0); replace hx336_0 := (HB.out.cell (World.block_lt_of_cell? w _ hx336_0)).trans hx336_0; replace p336 := eq_true p336; replace q336 := eq_true q336; have q10 : ((wrap64 ((ji4) + (rd l0_0 1))) : Int) ≤ ((l0_1.length : Int) : Int) := ΩS_6 (by first | (with_reducible assumption) | assumption); obtain ⟨i010, hi010, _, hsz10, _⟩ := info_parts info3; have hroom10 : l0_1.length ≤ c0_1 := (Kd.V_reads' HO0_1.out).2.1; have hC10 : Kd.F (Kd.int .i64) _ _ A0_1 l0_1.length l0_1 := (Kd.V_at (base := w.heap.size) HO0_1.out).2.2; have ql10 : ((ji4) : Int) ≤ ((wrap64 ((ji4) + (rd l0_0 1))) : Int) := ΩS_6 (by first | (with_reducible assumption) | assumption); have q010 : (0 : Int) ≤ ((ji4) : Int) := ΩS_6 (by first | (with_reducible assumption) | assumption); have hcut10 := cut_mid (P := Try.prog) 22 3 .i64 .i64 Try.underlying22 hi010 1 hsz10 A0_1 l0_1.length c0_1 (ji4) (wrap64 ((ji4) + (rd l0_0 1))) q010 ql10 q10 hroom10; have hr10 := Kd.F_mid (lo := ((ji4) : Int).toNat) (hi := ((wrap64 ((ji4) + (rd l0_0 1))) : Int).toNat) (c := c0_1) hC10 (by omega) (by omega) hroom10; obtain ⟨A10, hA10⟩ : ∃ A1, A1 = (if c0_1 = ((ji4) : Int).toNat then A0_1 else (A0_1 : Option Addr).map (·.add (((ji4) : Int).toNat * 1))) := ⟨_, rfl⟩; obtain ⟨c10, hc10⟩ : ∃ c1, c1 = c0_1 - ((ji4) : Int).toNat := ⟨_, rfl⟩; have hy10 : y337.length = ((wrap64 ((ji4) + (rd l0_0 1))) : Int).toNat - ((ji4) : Int).toNat := (by rw [Ny337.out, List.length_drop, List.length_take] <;> omega); rw [show ((l0_1).take ((wrap64 ((ji4) + (rd l0_0 1))) : Int).toNat).drop ((ji4) : Int).toNat = y337 from Ny337.out.symm] at hr10; replace hr10 : Kd.F (Kd.int .i64) _ _ A10 y337.length y337 := (by rw [hA10]; exact hr10); rw [← hy10, ← hA10, ← hc10] at hcut10; have HO341 := Ω5_6 (show Kd.V (Kd.int .i64) 3 _ w.heap.size _ (.slice A10 y337.length c10) y337 from Kd.V_mk (by rw [hy10, hc10]; exact Nat.sub_le_sub_right (Nat.le_trans (by omega) hroom10) _) hr10); have HC341 := Ω5_6 (show y337.length ≤ c10 from by rw [hy10, hc10]; exact Nat.sub_le_sub_right (Nat.le_trans (by omega) hroom10) _); clear hr10 hC10 hroom10 hi010 hsz10 hc10; have KY10 := Ω5_6 hy10; have KA10 := Ω5_6 hA10; clear hy10 hA10; replace q10 := eq_true q10))
     go_ret
     exact ⟨_, by first | rfl | (simp [errW_none, errW_some] <;> rfl) | (simp only [← hji4]; first | rfl | (simp [errW_none, errW_some] <;> rfl)) | (simp [*, errW_none, errW_some] <;> rfl), by (with_reducible repeat (first | apply Kd.V_alloc | apply Kd.V_drewN | apply Kd.V_drew)); exact Kd.V_mono HO341.out (fun _ hk => hk.1), by repeat (first | (with_reducible first | exact HB.out | apply Ω6_6 | apply Ω7_6 | apply Ω8_6 | refine below_set ?_ GE335.out) | exact HB.out)⟩
    ·rw [if_neg c7] at H
     exact absurd H (by simp)
   ·rw [if_neg c6] at H
    exact absurd H (by simp)
  ·rw [if_neg c5] at H
   exact absurd H (by simp)
 ·rw [if_neg c3] at H
  exact absurd H (by simp)

/-! ### spec_Signed: function 64 -/
def spec_Signed.f (a0 : Int) : Option (Int) := (spec_Mod.f a0).bind fun t342 => (if t342 > 1073741823 then (some (wrap64 (t342 - 2147483647))) else (some t342))
set_option maxHeartbeats 8000000 in
set_option maxRecDepth 100000 in
theorem spec_Signed.calls (a0 : Int) (r : Int) (w : World) (h : spec_Signed.f a0 = some r) :
  Calls Try.prog 64 #[.int .i64 a0] w fun e w' => e = .returned (.int .i64 r) ∧ Drawn0 w w' := by
 have H : ((spec_Mod.f a0).bind fun t342 => (if t342 > 1073741823 then (some (wrap64 (t342 - 2147483647))) else (some t342))) = some r := h
 clear h
 replace H := Option.bind_eq_some_iff.mp H
 obtain ⟨t342, A20, H⟩ := H
 try dsimp only at H
 have A2 := Ω5_6 A20
 clear A20
 by_cases c3 : t342 > 1073741823
 ·rw [if_pos c3] at H
  have c3b0 : decide (1073741823 < t342) = true := decide_eq_true c3
  clear c3
  obtain rfl := Option.some.inj H
  go_enter Try.func64, Try.ntmps64
  go_wp2_with (first | ((with_reducible refine gate_callee (f := 87) rfl ?_); refine goesL_ (some 5) rfl rfl Try.func87 (by kernel_rfl) rfl #[.int .i64 a0] rfl (by (try simp only [List.map_toArray, List.map_cons, List.map_nil]); first | done | rfl | (simp only [List.length_drop, List.length_take]; rfl)) ?_; (with_reducible refine (spec_Mod.calls a0 t342 _ A2.out).mono ?_); rintro e w' ⟨rfl, ⟨nd, rfl⟩⟩; refine ⟨_, rfl, ?_⟩))
  go_ret
  exact ⟨by first | rfl | (simp; done) | (simp [*]; done), by repeat (first | exact Drawn0.refl _ | apply Drawn0.step)⟩
 ·rw [if_neg c3] at H
  have c3b0 : decide (1073741823 < t342) = false := decide_eq_false c3
  clear c3
  obtain rfl := Option.some.inj H
  go_enter Try.func64, Try.ntmps64
  go_wp2_with (first | ((with_reducible refine gate_callee (f := 87) rfl ?_); refine goesL_ (some 5) rfl rfl Try.func87 (by kernel_rfl) rfl #[.int .i64 a0] rfl (by (try simp only [List.map_toArray, List.map_cons, List.map_nil]); first | done | rfl | (simp only [List.length_drop, List.length_take]; rfl)) ?_; (with_reducible refine (spec_Mod.calls a0 t342 _ A2.out).mono ?_); rintro e w' ⟨rfl, ⟨nd, rfl⟩⟩; refine ⟨_, rfl, ?_⟩))
  go_ret
  exact ⟨by first | rfl | (simp; done) | (simp [*]; done), by repeat (first | exact Drawn0.refl _ | apply Drawn0.step)⟩

end Go.Proofs.Ytcpemdedmepfeaa.PFnRouted
