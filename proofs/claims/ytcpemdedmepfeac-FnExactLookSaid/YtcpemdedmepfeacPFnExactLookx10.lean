-- Printed out of the translation, hand-written contracts beside it; checked by the kernel alone.
import Derived.Test.YtcpemdedmepfeacPFnExactLookx0
import Derived.Test.YtcpemdedmepfeacPFnExactLookx1
import Derived.Test.YtcpemdedmepfeacPFnExactLookx5
import Derived.Test.YtcpemdedmepfeacPFnExactLookx9
namespace Go.Proofs.Ytcpemdedmepfeac.PFnExactLook
open Go.RowKit Go.Proofs.YtcpemdedmepfeacW.PrintWords Go.Proofs.YtcpemdedmepfeacW.PrintLast Go.Proofs.YtcpemdedmepfeacW.PrintMore
attribute [local go_sem] max2_int min2_int max_two min_two max_three min_three max_four min_four   -- for this text's walks alone
set_option linter.unusedVariables false
set_option linter.unusedSimpArgs false

/-! ### laws_FnExactLook: function 4 -/
def laws_FnExactLook.j0 : Nat → Bool → List Int → List Int → List Int → List Int → Int → Int → List Int → List Int → List Int → List Int → Option (Bool)
 | 0, _, _, _, _, _, _, _, _, _, _, _ => none
 | k + 1, x63, x243000, x243001, x244000, x244001, x244002, x244003, x267000, x267001, x290000, x290001 => if x63 = true then (some false) else ((laws_markTensor.f k x290000 x290001 1).bind fun bt314 => ((laws_heldTensor.f k bt314.2.1 bt314.2.2 1).bind fun t317 => (if t317 < 0 then (some false) else (if t317 = bt314.1 then ((laws_toTensor.f k x243000 x243001).bind fun bt318 => ((laws_toView.f k x244000 x244001 x244002 x244003).bind fun bt324 => ((impl_Look.f k bt318.1 bt318.2 bt324.1 bt324.2.1 bt324.2.2.1 bt324.2.2.2).bind fun bt332 => ((laws_eqTensor.f k bt332.1 bt332.2 x267000 x267001).bind fun t339 => (if t339 = true then ((laws_heldTensor.f k bt314.2.1 bt314.2.2 1).bind fun t340 => (if t340 < 0 then (some false) else (if t340 = bt314.1 then (some true) else (some false)))) else (some false)))))) else (some false)))))
def laws_FnExactLook.f (k : Nat) (l0_0 : List Int) (l0_1 : List Int) (l1_0 : List Int) (l1_1 : List Int) (a1_2 : Int) (a1_3 : Int) : Option (Bool) := (laws_szTensor.f l0_0 l0_1 1048576).bind fun t244 => (if t244 < 0 then (some true) else ((laws_szView.f l1_0 l1_1 a1_2 a1_3 t244).bind fun t245 => (if t245 < 0 then (some true) else ((laws_toTensor.f k l0_0 l0_1).bind fun bt246 => ((laws_toView.f k l1_0 l1_1 a1_2 a1_3).bind fun bt252 => ((spec_Look.f k bt246.1 bt246.2 bt252.1 bt252.2.1 bt252.2.2.1 bt252.2.2.2).bind fun bt260 => ((laws_toTensor.f k l0_0 l0_1).bind fun bt267 => ((laws_toView.f k l1_0 l1_1 a1_2 a1_3).bind fun bt274 => ((impl_Look.f k bt267.1 bt267.2 bt274.1 bt274.2.1 bt274.2.2.1 bt274.2.2.2).bind fun bt283 => ((laws_eqTensor.f k bt283.1 bt283.2 bt260.1 bt260.2).bind fun t290 => (if t290 = true then ((laws_toTensor.f k l0_0 l0_1).bind fun bt291 => ((laws_eqTensor.f k bt267.1 bt267.2 bt291.1 bt291.2).bind fun t297 => (if t297 = true then ((laws_toView.f k l1_0 l1_1 a1_2 a1_3).bind fun bt298 => ((laws_eqView.f k bt274.1 bt274.2.1 bt274.2.2.1 bt274.2.2.2 bt298.1 bt298.2.1 bt298.2.2.1 bt298.2.2.2).bind fun t306 => (if t306 = true then ((laws_markTensor.f k bt267.1 bt267.2 1).bind fun bt307 => ((laws_markView.f k bt274.1 bt274.2.1 bt274.2.2.1 bt274.2.2.2 bt307.1).bind fun bt310 => (if bt310.1 < 0 then (laws_FnExactLook.j0 k true l0_0 l0_1 l1_0 l1_1 a1_2 a1_3 bt260.1 bt260.2 bt283.1 bt283.2) else ((laws_eqTensor.f k bt283.1 bt283.2 bt260.1 bt260.2).bind fun t313 => (laws_FnExactLook.j0 k (!t313) l0_0 l0_1 l1_0 l1_1 a1_2 a1_3 bt260.1 bt260.2 bt283.1 bt283.2))))) else (some false)))) else (some false)))) else (some false))))))))))))
theorem laws_FnExactLook.mono_l : ∀ k, (∀ y0 y1 y2 y3 y4 y5 y6 y7 y8 y9 y10, LeO (laws_FnExactLook.j0 k y0 y1 y2 y3 y4 y5 y6 y7 y8 y9 y10) (laws_FnExactLook.j0 (k + 1) y0 y1 y2 y3 y4 y5 y6 y7 y8 y9 y10))
 | 0 => fun _ _ _ _ _ _ _ _ _ _ _ r h => by simp [laws_FnExactLook.j0] at h
 | k + 1 => by
  have ih0 := laws_FnExactLook.mono_l k
  ·intro y0 y1 y2 y3 y4 y5 y6 y7 y8 y9 y10
   unfold laws_FnExactLook.j0
   repeat' first
   | (with_reducible exact ih0 _ _ _ _ _ _ _ _ _ _ _)
   | (with_reducible exact impl_Look.mono _ _ _ _ _ _ _)
   | (with_reducible exact laws_eqTensor.mono _ _ _ _ _)
   | (with_reducible exact laws_eqView.mono _ _ _ _ _ _ _ _ _)
   | (with_reducible exact laws_heldTensor.mono _ _ _ _)
   | (with_reducible exact laws_markTensor.mono _ _ _ _)
   | (with_reducible exact laws_markView.mono _ _ _ _ _ _)
   | (with_reducible exact laws_toTensor.mono _ _ _)
   | (with_reducible exact laws_toView.mono _ _ _ _ _)
   | (with_reducible exact spec_Look.mono _ _ _ _ _ _ _)
   | (with_reducible exact LeO.refl _)
   | (with_reducible exact LeO.none _)
   | (with_reducible refine LeO.ite ?_ ?_)
   | (with_reducible refine LeO.bind ?_ (fun _ => ?_))
   | exact ih0 _ _ _ _ _ _ _ _ _ _ _
   | exact impl_Look.mono _ _ _ _ _ _ _
   | exact laws_eqTensor.mono _ _ _ _ _
   | exact laws_eqView.mono _ _ _ _ _ _ _ _ _
   | exact laws_heldTensor.mono _ _ _ _
   | exact laws_markTensor.mono _ _ _ _
   | exact laws_markView.mono _ _ _ _ _ _
   | exact laws_toTensor.mono _ _ _
   | exact laws_toView.mono _ _ _ _ _
   | exact spec_Look.mono _ _ _ _ _ _ _
   | exact LeO.none _
   | refine LeO.ite ?_ ?_
   | refine LeO.bind ?_ (fun _ => ?_)
theorem laws_FnExactLook.mono : ∀ a0 a1 a2 a3 a4 a5 k, LeO (laws_FnExactLook.f k a0 a1 a2 a3 a4 a5) (laws_FnExactLook.f (k + 1) a0 a1 a2 a3 a4 a5) := by
 intro a0 a1 a2 a3 a4 a5 k
 have ih0 := laws_FnExactLook.mono_l k
 unfold laws_FnExactLook.f
 repeat' first
   | (with_reducible exact ih0 _ _ _ _ _ _ _ _ _ _ _)
   | (with_reducible exact impl_Look.mono _ _ _ _ _ _ _)
   | (with_reducible exact laws_eqTensor.mono _ _ _ _ _)
   | (with_reducible exact laws_eqView.mono _ _ _ _ _ _ _ _ _)
   | (with_reducible exact laws_heldTensor.mono _ _ _ _)
   | (with_reducible exact laws_markTensor.mono _ _ _ _)
   | (with_reducible exact laws_markView.mono _ _ _ _ _ _)
   | (with_reducible exact laws_toTensor.mono _ _ _)
   | (with_reducible exact laws_toView.mono _ _ _ _ _)
   | (with_reducible exact spec_Look.mono _ _ _ _ _ _ _)
   | (with_reducible exact LeO.refl _)
   | (with_reducible exact LeO.none _)
   | (with_reducible refine LeO.ite ?_ ?_)
   | (with_reducible refine LeO.bind ?_ (fun _ => ?_))
   | exact ih0 _ _ _ _ _ _ _ _ _ _ _
   | exact impl_Look.mono _ _ _ _ _ _ _
   | exact laws_eqTensor.mono _ _ _ _ _
   | exact laws_eqView.mono _ _ _ _ _ _ _ _ _
   | exact laws_heldTensor.mono _ _ _ _
   | exact laws_markTensor.mono _ _ _ _
   | exact laws_markView.mono _ _ _ _ _ _
   | exact laws_toTensor.mono _ _ _
   | exact laws_toView.mono _ _ _ _ _
   | exact spec_Look.mono _ _ _ _ _ _ _
   | exact LeO.none _
   | refine LeO.ite ?_ ?_
   | refine LeO.bind ?_ (fun _ => ?_)

theorem Ω1 : type_of% @Kd.R_alloc := @Kd.R_alloc
theorem Ω2 : type_of% @Kd.R_drewN := @Kd.R_drewN
theorem Ω3 : type_of% @Kd.R_drew := @Kd.R_drew
theorem Ω5 : type_of% @Aside0.mk := @Aside0.mk
theorem Ω8 : type_of% @below_drew1 := @below_drew1
theorem ΩA : type_of% @blk_drewN := @blk_drewN
theorem ΩB : type_of% @blk_alloc := @blk_alloc
theorem ΩC : type_of% @blk_drew := @blk_drew
theorem ΩD : type_of% @Kd.R_below := @Kd.R_below
theorem ΩE : type_of% @Kd.R_mono := @Kd.R_mono
theorem ΩF : type_of% @blk_frozen := @blk_frozen
theorem ΩJ : type_of% @blk_cell := @blk_cell
theorem ΩK : type_of% @Kd.R_keptB := @Kd.R_keptB
set_option maxHeartbeats 8000000 in
set_option maxRecDepth 100000 in
theorem laws_FnExactLook.calls (k : Nat) (A0_0 : Option Addr) (c0_0 : Nat) (l0_0 : List Int) (A0_1 : Option Addr) (c0_1 : Nat) (l0_1 : List Int) (A1_0 : Option Addr) (c1_0 : Nat) (l1_0 : List Int) (A1_1 : Option Addr) (c1_1 : Nat) (l1_1 : List Int) (a1_2 : Int) (a1_3 : Int) (r : Bool) (w : World) (hrt : r = true) (hr0_0 : Kd.C (Kd.int .i64) w A0_0 l0_0.length l0_0) (hc0_0 : l0_0.length ≤ c0_0) (hr0_1 : Kd.C (Kd.int .i64) w A0_1 l0_1.length l0_1) (hc0_1 : l0_1.length ≤ c0_1) (hr1_0 : Kd.C (Kd.int .i64) w A1_0 l1_0.length l1_0) (hc1_0 : l1_0.length ≤ c1_0) (hr1_1 : Kd.C (Kd.int .i64) w A1_1 l1_1.length l1_1) (hc1_1 : l1_1.length ≤ c1_1) (h : laws_FnExactLook.f k l0_0 l0_1 l1_0 l1_1 a1_2 a1_3 = some r) :
  Calls Try.prog 4 #[.agg #[.slice A0_0 l0_0.length c0_0, .slice A0_1 l0_1.length c0_1], .agg #[.slice A1_0 l1_0.length c1_0, .slice A1_1 l1_1.length c1_1, .int .i64 a1_2, .int .i64 a1_3]] w fun e w' => e = .returned (.bool r) ∧ Below w.heap.size w w' := by
 have HRT := Aside0.mk hrt
 clear hrt
 have hu24 := Try.underlying24
 have hu33 := Try.underlying33
 have hu26 := Try.underlying26
 have hu36 := Try.underlying36
 have HR0_0 := Ω5 hr0_0
 have HC0_0 := Ω5 hc0_0
 clear hr0_0 hc0_0
 have HR0_1 := Ω5 hr0_1
 have HC0_1 := Ω5 hc0_1
 clear hr0_1 hc0_1
 have HR1_0 := Ω5 hr1_0
 have HC1_0 := Ω5 hc1_0
 clear hr1_0 hc1_0
 have HR1_1 := Ω5 hr1_1
 have HC1_1 := Ω5 hc1_1
 clear hr1_1 hc1_1
 have HB := Ω5 (Below.refl w.heap.size w)
 have H : ((laws_szTensor.f l0_0 l0_1 1048576).bind fun t244 => (if t244 < 0 then (some true) else ((laws_szView.f l1_0 l1_1 a1_2 a1_3 t244).bind fun t245 => (if t245 < 0 then (some true) else ((laws_toTensor.f k l0_0 l0_1).bind fun bt246 => ((laws_toView.f k l1_0 l1_1 a1_2 a1_3).bind fun bt252 => ((spec_Look.f k bt246.1 bt246.2 bt252.1 bt252.2.1 bt252.2.2.1 bt252.2.2.2).bind fun bt260 => ((laws_toTensor.f k l0_0 l0_1).bind fun bt267 => ((laws_toView.f k l1_0 l1_1 a1_2 a1_3).bind fun bt274 => ((impl_Look.f k bt267.1 bt267.2 bt274.1 bt274.2.1 bt274.2.2.1 bt274.2.2.2).bind fun bt283 => ((laws_eqTensor.f k bt283.1 bt283.2 bt260.1 bt260.2).bind fun t290 => (if t290 = true then ((laws_toTensor.f k l0_0 l0_1).bind fun bt291 => ((laws_eqTensor.f k bt267.1 bt267.2 bt291.1 bt291.2).bind fun t297 => (if t297 = true then ((laws_toView.f k l1_0 l1_1 a1_2 a1_3).bind fun bt298 => ((laws_eqView.f k bt274.1 bt274.2.1 bt274.2.2.1 bt274.2.2.2 bt298.1 bt298.2.1 bt298.2.2.1 bt298.2.2.2).bind fun t306 => (if t306 = true then ((laws_markTensor.f k bt267.1 bt267.2 1).bind fun bt307 => ((laws_markView.f k bt274.1 bt274.2.1 bt274.2.2.1 bt274.2.2.2 bt307.1).bind fun bt310 => (if bt310.1 < 0 then (laws_FnExactLook.j0 k true l0_0 l0_1 l1_0 l1_1 a1_2 a1_3 bt260.1 bt260.2 bt283.1 bt283.2) else ((laws_eqTensor.f k bt283.1 bt283.2 bt260.1 bt260.2).bind fun t313 => (laws_FnExactLook.j0 k (!t313) l0_0 l0_1 l1_0 l1_1 a1_2 a1_3 bt260.1 bt260.2 bt283.1 bt283.2))))) else (some false)))) else (some false)))) else (some false))))))))))))) = some r := h
 clear h
 replace H := Option.bind_eq_some_iff.mp H
 obtain ⟨t244, A30, H⟩ := H
 try dsimp only at H
 have A3 := Ω5 A30
 clear A30
 by_cases c4 : t244 < 0
 ·rw [if_pos c4] at H
  have c4b0 : decide (t244 < 0) = true := decide_eq_true c4
  clear c4
  obtain rfl := Option.some.inj H
  go_enter Try.func4, Try.ntmps4
  go_wp2_with (first | ((with_reducible refine gate_dst (N := 2) rfl ?_); refine box_event ?hg (N := 2) ?hd (cs := #[.slice A0_0 l0_0.length c0_0, .slice A0_1 l0_1.length c0_1]) (t := 24) ?hr ?_; (case hd => rfl); (case hg => rfl); (case hr => first | (go_simp; done) | (go_simp; rfl)); intro gb242 hg w5 hbox hb; have BK242 := Ω5 (hbox); have GW242 := Ω5 ((by rw [hg]; exact (below_size (Hu HB.out)) : w.heap.size ≤ gb242)); have GE242 := Ω5 ((by rw [hg]; exact (below_size (Hu HB.out)) : w.heap.size ≤ gb242)); replace HB := Ω5 (below_step (Hu HB.out) hb); clear hb hbox hg) | ((with_reducible refine gate_dst (N := 3) rfl ?_); refine box_event ?hg (N := 3) ?hd (cs := #[.slice A1_0 l1_0.length c1_0, .slice A1_1 l1_1.length c1_1, .int .i64 a1_2, .int .i64 a1_3]) (t := 33) ?hr ?_; (case hd => rfl); (case hg => rfl); (case hr => first | (go_simp; done) | (go_simp; rfl)); intro gb243 hg w6 hbox hb; have BK243 := Ω5 (hbox); have GW243 := Ω5 ((by rw [hg]; exact (below_size (HBu HB.out)) : w.heap.size ≤ gb243)); have GE243 := Ω5 ((by rw [hg]; exact (below_size (HBu HB.out)) : w.heap.size ≤ gb243)); have NB242_243 := Ω5 ((by rw [hg]; exact Nat.ne_of_lt (blk_lt (g := gb242) (o := .cells #[.slice A0_0 l0_0.length c0_0, .slice A0_1 l0_1.length c0_1] 24 (0, 0)) (Bu BK242.out)) : gb242 ≠ gb243)); have NB243_242 := Ω5 ((by rw [hg]; exact Nat.ne_of_gt (blk_lt (g := gb242) (o := .cells #[.slice A0_0 l0_0.length c0_0, .slice A0_1 l0_1.length c0_1] 24 (0, 0)) (Bu BK242.out)) : gb243 ≠ gb242)); replace BK242 := Ω5 (Bb BK242.out hb); replace HB := Ω5 (below_step (HBu HB.out) hb); clear hb hbox hg; have hnb7 := NB242_243.out; have hnc7 := NB243_242.out; have hcz8_0 : w6.cell? ⟨gb242, 0, none⟩ = some (.slice A0_0 l0_0.length c0_0) := (ΩJ BK242.out 0).trans rfl; have hcz8_1 : w6.cell? ⟨gb242, 1, none⟩ = some (.slice A0_1 l0_1.length c0_1) := (ΩJ BK242.out 1).trans rfl; have hfz8_0 := ΩF BK242.out 0; have hfz8_1 := ΩF BK242.out 1) | ((with_reducible refine gate_callee (f := 9) rfl ?_); refine goesL_ (some 16) rfl rfl Try.func9 (by kernel_rfl) rfl #[.agg #[.slice A0_0 l0_0.length c0_0, .slice A0_1 l0_1.length c0_1], .int .i64 1048576] rfl (by (try simp only [List.map_toArray, List.map_cons, List.map_nil]); first | done | rfl | (simp only [List.length_drop, List.length_take]; rfl)) ?_; (with_reducible refine (laws_szTensor.calls _ _ l0_0 _ _ l0_1 1048576 t244 _ ?side1 ?side2 ?side3 ?side4 A3.out).mono ?_); (case side1 => exact (Cu ((Kd.C_below HR0_0.out HB.out)))); (case side2 => exact HC0_0.out); (case side3 => exact (Cu ((Kd.C_below HR0_1.out HB.out)))); (case side4 => exact HC0_1.out); rintro e w9 ⟨rfl, hb⟩; refine ⟨_, rfl, ?_⟩; replace BK242 := Ω5 (Bb BK242.out hb); replace BK243 := Ω5 (Bb BK243.out hb); replace HB := Ω5 (below_step (HBu HB.out) hb); (try clear hb); (try clear hb2); (try clear hk); (try clear hi)))
  go_ret
  exact ⟨by first | rfl | (simp [errW_none, errW_some] <;> rfl) | (simp [*, errW_none, errW_some] <;> rfl), HBu HB.out⟩
 ·rw [if_neg c4] at H
  have c4b0 : decide (t244 < 0) = false := decide_eq_false c4
  clear c4
  replace H := Option.bind_eq_some_iff.mp H
  obtain ⟨t245, A100, H⟩ := H
  try dsimp only at H
  have A10 := Ω5 A100
  clear A100
  by_cases c11 : t245 < 0
  ·rw [if_pos c11] at H
   have c11b0 : decide (t245 < 0) = true := decide_eq_true c11
   clear c11
   obtain rfl := Option.some.inj H
   go_enter Try.func4, Try.ntmps4
   go_wp2_with (first | ((with_reducible refine gate_dst (N := 2) rfl ?_); refine box_event ?hg (N := 2) ?hd (cs := #[.slice A0_0 l0_0.length c0_0, .slice A0_1 l0_1.length c0_1]) (t := 24) ?hr ?_; (case hd => rfl); (case hg => rfl); (case hr => first | (go_simp; done) | (go_simp; rfl)); intro gb242 hg w12 hbox hb; have BK242 := Ω5 (hbox); have GW242 := Ω5 ((by rw [hg]; exact (below_size (Hu HB.out)) : w.heap.size ≤ gb242)); have GE242 := Ω5 ((by rw [hg]; exact (below_size (Hu HB.out)) : w.heap.size ≤ gb242)); replace HB := Ω5 (below_step (Hu HB.out) hb); clear hb hbox hg) | ((with_reducible refine gate_dst (N := 3) rfl ?_); refine box_event ?hg (N := 3) ?hd (cs := #[.slice A1_0 l1_0.length c1_0, .slice A1_1 l1_1.length c1_1, .int .i64 a1_2, .int .i64 a1_3]) (t := 33) ?hr ?_; (case hd => rfl); (case hg => rfl); (case hr => first | (go_simp; done) | (go_simp; rfl)); intro gb243 hg w13 hbox hb; have BK243 := Ω5 (hbox); have GW243 := Ω5 ((by rw [hg]; exact (below_size (HBu HB.out)) : w.heap.size ≤ gb243)); have GE243 := Ω5 ((by rw [hg]; exact (below_size (HBu HB.out)) : w.heap.size ≤ gb243)); have NB242_243 := Ω5 ((by rw [hg]; exact Nat.ne_of_lt (blk_lt (g := gb242) (o := .cells #[.slice A0_0 l0_0.length c0_0, .slice A0_1 l0_1.length c0_1] 24 (0, 0)) (Bu BK242.out)) : gb242 ≠ gb243)); have NB243_242 := Ω5 ((by rw [hg]; exact Nat.ne_of_gt (blk_lt (g := gb242) (o := .cells #[.slice A0_0 l0_0.length c0_0, .slice A0_1 l0_1.length c0_1] 24 (0, 0)) (Bu BK242.out)) : gb243 ≠ gb242)); replace BK242 := Ω5 (Bb BK242.out hb); replace HB := Ω5 (below_step (HBu HB.out) hb); clear hb hbox hg; have hnb14 := NB242_243.out; have hnc14 := NB243_242.out; have hcz15_0 : w13.cell? ⟨gb242, 0, none⟩ = some (.slice A0_0 l0_0.length c0_0) := (ΩJ BK242.out 0).trans rfl; have hcz15_1 : w13.cell? ⟨gb242, 1, none⟩ = some (.slice A0_1 l0_1.length c0_1) := (ΩJ BK242.out 1).trans rfl; have hfz15_0 := ΩF BK242.out 0; have hfz15_1 := ΩF BK242.out 1) | ((with_reducible refine gate_callee (f := 9) rfl ?_); refine goesL_ (some 16) rfl rfl Try.func9 (by kernel_rfl) rfl #[.agg #[.slice A0_0 l0_0.length c0_0, .slice A0_1 l0_1.length c0_1], .int .i64 1048576] rfl (by (try simp only [List.map_toArray, List.map_cons, List.map_nil]); first | done | rfl | (simp only [List.length_drop, List.length_take]; rfl)) ?_; (with_reducible refine (laws_szTensor.calls _ _ l0_0 _ _ l0_1 1048576 t244 _ ?side1 ?side2 ?side3 ?side4 A3.out).mono ?_); (case side1 => exact (Cu ((Kd.C_below HR0_0.out HB.out)))); (case side2 => exact HC0_0.out); (case side3 => exact (Cu ((Kd.C_below HR0_1.out HB.out)))); (case side4 => exact HC0_1.out); rintro e w16 ⟨rfl, hb⟩; refine ⟨_, rfl, ?_⟩; replace BK242 := Ω5 (Bb BK242.out hb); replace BK243 := Ω5 (Bb BK243.out hb); replace HB := Ω5 (below_step (HBu HB.out) hb); (try clear hb); (try clear hb2); (try clear hk); (try clear hi); have hcz17_0 : w16.cell? ⟨gb243, 0, none⟩ = some (.slice A1_0 l1_0.length c1_0) := (ΩJ BK243.out 0).trans rfl; have hcz17_1 : w16.cell? ⟨gb243, 1, none⟩ = some (.slice A1_1 l1_1.length c1_1) := (ΩJ BK243.out 1).trans rfl; have hcz17_2 : w16.cell? ⟨gb243, 2, none⟩ = some (.int .i64 a1_2) := (ΩJ BK243.out 2).trans rfl; have hcz17_3 : w16.cell? ⟨gb243, 3, none⟩ = some (.int .i64 a1_3) := (ΩJ BK243.out 3).trans rfl; have hfz17_0 := ΩF BK243.out 0; have hfz17_1 := ΩF BK243.out 1; have hfz17_2 := ΩF BK243.out 2; have hfz17_3 := ΩF BK243.out 3) | ((with_reducible refine gate_callee (f := 16) rfl ?_); refine goesL_ (some 21) rfl rfl Try.func16 (by kernel_rfl) rfl #[.agg #[.slice A1_0 l1_0.length c1_0, .slice A1_1 l1_1.length c1_1, .int .i64 a1_2, .int .i64 a1_3], .int .i64 t244] rfl (by (try simp only [List.map_toArray, List.map_cons, List.map_nil]); first | done | rfl | (simp only [List.length_drop, List.length_take]; rfl)) ?_; (with_reducible refine (laws_szView.calls _ _ l1_0 _ _ l1_1 a1_2 a1_3 t244 t245 _ ?side1 ?side2 ?side3 ?side4 A10.out).mono ?_); (case side1 => exact (Cu ((Kd.C_below HR1_0.out HB.out)))); (case side2 => exact HC1_0.out); (case side3 => exact (Cu ((Kd.C_below HR1_1.out HB.out)))); (case side4 => exact HC1_1.out); rintro e w18 ⟨rfl, hb⟩; refine ⟨_, rfl, ?_⟩; replace BK242 := Ω5 (Bb BK242.out hb); replace BK243 := Ω5 (Bb BK243.out hb); replace HB := Ω5 (below_step (HBu HB.out) hb); (try clear hb); (try clear hb2); (try clear hk); (try clear hi)))
   go_ret
   exact ⟨by first | rfl | (simp [errW_none, errW_some] <;> rfl) | (simp [*, errW_none, errW_some] <;> rfl), HBu HB.out⟩
  ·rw [if_neg c11] at H
   have c11b0 : decide (t245 < 0) = false := decide_eq_false c11
   clear c11
   replace H := Option.bind_eq_some_iff.mp H
   obtain ⟨⟨t246, t249⟩, A190, H⟩ := H
   try dsimp only at H
   have A19 := Ω5 A190
   clear A190
   replace H := Option.bind_eq_some_iff.mp H
   obtain ⟨⟨t252, t255, t258, t259⟩, A200, H⟩ := H
   try dsimp only at H
   have A20 := Ω5 A200
   clear A200
   replace H := Option.bind_eq_some_iff.mp H
   obtain ⟨⟨t260, t263⟩, A210, H⟩ := H
   try dsimp only at H
   have A21 := Ω5 A210
   clear A210
   replace H := Option.bind_eq_some_iff.mp H
   obtain ⟨⟨t267, t270⟩, A220, H⟩ := H
   try dsimp only at H
   have A22 := Ω5 A220
   clear A220
   replace H := Option.bind_eq_some_iff.mp H
   obtain ⟨⟨t274, t277, t280, t281⟩, A230, H⟩ := H
   try dsimp only at H
   have A23 := Ω5 A230
   clear A230
   replace H := Option.bind_eq_some_iff.mp H
   obtain ⟨⟨t283, t286⟩, A240, H⟩ := H
   try dsimp only at H
   have A24 := Ω5 A240
   clear A240
   replace H := Option.bind_eq_some_iff.mp H
   obtain ⟨t290, A250, H⟩ := H
   try dsimp only at H
   have A25 := Ω5 A250
   clear A250
   by_cases c26 : t290 = true
   ·subst c26
    have H1 : ((laws_toTensor.f k l0_0 l0_1).bind fun bt291 => ((laws_eqTensor.f k t267 t270 bt291.1 bt291.2).bind fun t297 => (if t297 = true then ((laws_toView.f k l1_0 l1_1 a1_2 a1_3).bind fun bt298 => ((laws_eqView.f k t274 t277 t280 t281 bt298.1 bt298.2.1 bt298.2.2.1 bt298.2.2.2).bind fun t306 => (if t306 = true then ((laws_markTensor.f k t267 t270 1).bind fun bt307 => ((laws_markView.f k t274 t277 t280 t281 bt307.1).bind fun bt310 => (if bt310.1 < 0 then (laws_FnExactLook.j0 k true l0_0 l0_1 l1_0 l1_1 a1_2 a1_3 t260 t263 t283 t286) else ((laws_eqTensor.f k t283 t286 t260 t263).bind fun t313 => (laws_FnExactLook.j0 k (!t313) l0_0 l0_1 l1_0 l1_1 a1_2 a1_3 t260 t263 t283 t286))))) else (some false)))) else (some false)))) = some r := by rw [if_pos rfl] at H; exact H
    clear H
    have H := H1
    clear H1
    replace H := Option.bind_eq_some_iff.mp H
    obtain ⟨⟨t291, t294⟩, A270, H⟩ := H
    try dsimp only at H
    have A27 := Ω5 A270
    clear A270
    replace H := Option.bind_eq_some_iff.mp H
    obtain ⟨t297, A280, H⟩ := H
    try dsimp only at H
    have A28 := Ω5 A280
    clear A280
    by_cases c29 : t297 = true
    ·subst c29
     have H1 : ((laws_toView.f k l1_0 l1_1 a1_2 a1_3).bind fun bt298 => ((laws_eqView.f k t274 t277 t280 t281 bt298.1 bt298.2.1 bt298.2.2.1 bt298.2.2.2).bind fun t306 => (if t306 = true then ((laws_markTensor.f k t267 t270 1).bind fun bt307 => ((laws_markView.f k t274 t277 t280 t281 bt307.1).bind fun bt310 => (if bt310.1 < 0 then (laws_FnExactLook.j0 k true l0_0 l0_1 l1_0 l1_1 a1_2 a1_3 t260 t263 t283 t286) else ((laws_eqTensor.f k t283 t286 t260 t263).bind fun t313 => (laws_FnExactLook.j0 k (!t313) l0_0 l0_1 l1_0 l1_1 a1_2 a1_3 t260 t263 t283 t286))))) else (some false)))) = some r := by rw [if_pos rfl] at H; exact H
     clear H
     have H := H1
     clear H1
     replace H := Option.bind_eq_some_iff.mp H
     obtain ⟨⟨t298, t301, t304, t305⟩, A300, H⟩ := H
     try dsimp only at H
     have A30 := Ω5 A300
     clear A300
     replace H := Option.bind_eq_some_iff.mp H
     obtain ⟨t306, A310, H⟩ := H
     try dsimp only at H
     have A31 := Ω5 A310
     clear A310
     by_cases c32 : t306 = true
     ·subst c32
      have H1 : ((laws_markTensor.f k t267 t270 1).bind fun bt307 => ((laws_markView.f k t274 t277 t280 t281 bt307.1).bind fun bt310 => (if bt310.1 < 0 then (laws_FnExactLook.j0 k true l0_0 l0_1 l1_0 l1_1 a1_2 a1_3 t260 t263 t283 t286) else ((laws_eqTensor.f k t283 t286 t260 t263).bind fun t313 => (laws_FnExactLook.j0 k (!t313) l0_0 l0_1 l1_0 l1_1 a1_2 a1_3 t260 t263 t283 t286))))) = some r := by rw [if_pos rfl] at H; exact H
      clear H
      have H := H1
      clear H1
      replace H := Option.bind_eq_some_iff.mp H
      obtain ⟨⟨t307, t308, t309⟩, A330, H⟩ := H
      try dsimp only at H
      have A33 := Ω5 A330
      clear A330
      replace H := Option.bind_eq_some_iff.mp H
      obtain ⟨⟨t310, t311, t312⟩, A340, H⟩ := H
      try dsimp only at H
      have A34 := Ω5 A340
      clear A340
      have HC35 := Ω5 H
      clear H
      go_enter Try.func4, Try.ntmps4
      try go_wp2_with (first | ((with_reducible refine gate_dst (N := 2) rfl ?_); refine box_event ?hg (N := 2) ?hd (cs := #[.slice A0_0 l0_0.length c0_0, .slice A0_1 l0_1.length c0_1]) (t := 24) ?hr ?_; (case hd => rfl); (case hg => rfl); (case hr => first | (go_simp; done) | (go_simp; rfl)); intro gb242 hg w36 hbox hb; have BK242 := Ω5 (hbox); have GW242 := Ω5 ((by rw [hg]; exact (below_size (Hu HB.out)) : w.heap.size ≤ gb242)); have GE242 := Ω5 ((by rw [hg]; exact (below_size (Hu HB.out)) : w.heap.size ≤ gb242)); replace HB := Ω5 (below_step (Hu HB.out) hb); clear hb hbox hg) | ((with_reducible refine gate_dst (N := 3) rfl ?_); refine box_event ?hg (N := 3) ?hd (cs := #[.slice A1_0 l1_0.length c1_0, .slice A1_1 l1_1.length c1_1, .int .i64 a1_2, .int .i64 a1_3]) (t := 33) ?hr ?_; (case hd => rfl); (case hg => rfl); (case hr => first | (go_simp; done) | (go_simp; rfl)); intro gb243 hg w37 hbox hb; have BK243 := Ω5 (hbox); have GW243 := Ω5 ((by rw [hg]; exact (below_size (HBu HB.out)) : w.heap.size ≤ gb243)); have GE243 := Ω5 ((by rw [hg]; exact (below_size (HBu HB.out)) : w.heap.size ≤ gb243)); have NB242_243 := Ω5 ((by rw [hg]; exact Nat.ne_of_lt (blk_lt (g := gb242) (o := .cells #[.slice A0_0 l0_0.length c0_0, .slice A0_1 l0_1.length c0_1] 24 (0, 0)) (Bu BK242.out)) : gb242 ≠ gb243)); have NB243_242 := Ω5 ((by rw [hg]; exact Nat.ne_of_gt (blk_lt (g := gb242) (o := .cells #[.slice A0_0 l0_0.length c0_0, .slice A0_1 l0_1.length c0_1] 24 (0, 0)) (Bu BK242.out)) : gb243 ≠ gb242)); replace BK242 := Ω5 (Bb BK242.out hb); replace HB := Ω5 (below_step (HBu HB.out) hb); clear hb hbox hg; have hnb38 := NB242_243.out; have hnc38 := NB243_242.out; have hcz39_0 : w37.cell? ⟨gb242, 0, none⟩ = some (.slice A0_0 l0_0.length c0_0) := (ΩJ BK242.out 0).trans rfl; have hcz39_1 : w37.cell? ⟨gb242, 1, none⟩ = some (.slice A0_1 l0_1.length c0_1) := (ΩJ BK242.out 1).trans rfl; have hfz39_0 := ΩF BK242.out 0; have hfz39_1 := ΩF BK242.out 1) | ((with_reducible refine gate_callee (f := 9) rfl ?_); refine goesL_ (some 16) rfl rfl Try.func9 (by kernel_rfl) rfl #[.agg #[.slice A0_0 l0_0.length c0_0, .slice A0_1 l0_1.length c0_1], .int .i64 1048576] rfl (by (try simp only [List.map_toArray, List.map_cons, List.map_nil]); first | done | rfl | (simp only [List.length_drop, List.length_take]; rfl)) ?_; (with_reducible refine (laws_szTensor.calls _ _ l0_0 _ _ l0_1 1048576 t244 _ ?side1 ?side2 ?side3 ?side4 A3.out).mono ?_); (case side1 => exact (Cu ((Kd.C_below HR0_0.out HB.out)))); (case side2 => exact HC0_0.out); (case side3 => exact (Cu ((Kd.C_below HR0_1.out HB.out)))); (case side4 => exact HC0_1.out); rintro e w40 ⟨rfl, hb⟩; refine ⟨_, rfl, ?_⟩; replace BK242 := Ω5 (Bb BK242.out hb); replace BK243 := Ω5 (Bb BK243.out hb); replace HB := Ω5 (below_step (HBu HB.out) hb); (try clear hb); (try clear hb2); (try clear hk); (try clear hi); have hcz41_0 : w40.cell? ⟨gb243, 0, none⟩ = some (.slice A1_0 l1_0.length c1_0) := (ΩJ BK243.out 0).trans rfl; have hcz41_1 : w40.cell? ⟨gb243, 1, none⟩ = some (.slice A1_1 l1_1.length c1_1) := (ΩJ BK243.out 1).trans rfl; have hcz41_2 : w40.cell? ⟨gb243, 2, none⟩ = some (.int .i64 a1_2) := (ΩJ BK243.out 2).trans rfl; have hcz41_3 : w40.cell? ⟨gb243, 3, none⟩ = some (.int .i64 a1_3) := (ΩJ BK243.out 3).trans rfl; have hfz41_0 := ΩF BK243.out 0; have hfz41_1 := ΩF BK243.out 1; have hfz41_2 := ΩF BK243.out 2; have hfz41_3 := ΩF BK243.out 3) | ((with_reducible refine gate_callee (f := 16) rfl ?_); refine goesL_ (some 21) rfl rfl Try.func16 (by kernel_rfl) rfl #[.agg #[.slice A1_0 l1_0.length c1_0, .slice A1_1 l1_1.length c1_1, .int .i64 a1_2, .int .i64 a1_3], .int .i64 t244] rfl (by (try simp only [List.map_toArray, List.map_cons, List.map_nil]); first | done | rfl | (simp only [List.length_drop, List.length_take]; rfl)) ?_; (with_reducible refine (laws_szView.calls _ _ l1_0 _ _ l1_1 a1_2 a1_3 t244 t245 _ ?side1 ?side2 ?side3 ?side4 A10.out).mono ?_); (case side1 => exact (Cu ((Kd.C_below HR1_0.out HB.out)))); (case side2 => exact HC1_0.out); (case side3 => exact (Cu ((Kd.C_below HR1_1.out HB.out)))); (case side4 => exact HC1_1.out); rintro e w42 ⟨rfl, hb⟩; refine ⟨_, rfl, ?_⟩; replace BK242 := Ω5 (Bb BK242.out hb); replace BK243 := Ω5 (Bb BK243.out hb); replace HB := Ω5 (below_step (HBu HB.out) hb); (try clear hb); (try clear hb2); (try clear hk); (try clear hi)))
      replace BK242 := Ω5 (ΩC BK242.out)
      replace BK243 := Ω5 (ΩC BK243.out)
      replace HB := Ω5 (Ω8 HB.out)
      refine start_ (n := 7) (S := fun w' => w'.cell? ⟨gb242, 0, none⟩ = some (.slice A0_0 l0_0.length c0_0) ∧ w'.cell? ⟨gb242, 1, none⟩ = some (.slice A0_1 l0_1.length c0_1) ∧ w'.cell? ⟨gb243, 0, none⟩ = some (.slice A1_0 l1_0.length c1_0) ∧ w'.cell? ⟨gb243, 1, none⟩ = some (.slice A1_1 l1_1.length c1_1) ∧ w'.cell? ⟨gb243, 2, none⟩ = some (.int .i64 a1_2) ∧ w'.cell? ⟨gb243, 3, none⟩ = some (.int .i64 a1_3)) (ds := []) #[false, false, false, false, false, false, false] (by kernel_rfl) rfl rfl ⟨(ΩJ BK242.out 0).trans rfl, (ΩJ BK242.out 1).trans rfl, (ΩJ BK243.out 0).trans rfl, (ΩJ BK243.out 1).trans rfl, (ΩJ BK243.out 2).trans rfl, (ΩJ BK243.out 3).trans rfl⟩ (fun hHeld => ?_)
      generalize w42.drew = w43 at BK242 BK243 HB hHeld ⊢
      refine take_ (i := 0) (N := some 24) (v := ?_) (a' := ?_) #[true, false, false, false, false, false, false] rfl rfl (by kernel_rfl) (fun _ _ _ h => h) (Or.inl ⟨by rfl, ?_⟩) hHeld ?_ ?_
      rotate_left
      ·rintro w' ⟨s0, s1, s2, s3, s4, s5⟩
       go_simp
       with_reducible rfl
      rotate_left
      ·simp only [Act.put, List.setIfInBounds_toArray, List.set_cons_zero, List.set_cons_succ, i64_w, i32_w]
       rfl
      refine take_ (i := 2) (N := some 26) (v := ?_) (a' := ?_) #[true, false, true, false, false, false, false] rfl rfl (by kernel_rfl) (fun _ _ _ h => h) (Or.inl ⟨by rfl, ?_⟩) hHeld ?_ ?_
      rotate_left
      ·rintro w' ⟨s0, s1, s2, s3, s4, s5⟩
       go_simp
       with_reducible rfl
      rotate_left
      ·simp only [Act.put, List.setIfInBounds_toArray, List.set_cons_zero, List.set_cons_succ, i64_w, i32_w]
       rfl
      refine join_ (σ := Value × Value × Value × Value × Value × Value × Nat) 1 #[true, true, true, true, true, true, false] (fun s_ => [(25, .agg #[s_.1, s_.2.1]), (27, .agg #[s_.2.2.1, s_.2.2.2.1, .int .i64 t258, .int .i64 t259]), (28, .agg #[s_.2.2.2.2.1, s_.2.2.2.2.2.1]), (6, .pointer (some ⟨s_.2.2.2.2.2.2, 0, none⟩))]) (fun s_ w' => (w'.cell? ⟨gb242, 0, none⟩ = some (.slice A0_0 l0_0.length c0_0) ∧ w'.cell? ⟨gb242, 1, none⟩ = some (.slice A0_1 l0_1.length c0_1) ∧ w'.cell? ⟨gb243, 0, none⟩ = some (.slice A1_0 l1_0.length c1_0) ∧ w'.cell? ⟨gb243, 1, none⟩ = some (.slice A1_1 l1_1.length c1_1) ∧ w'.cell? ⟨gb243, 2, none⟩ = some (.int .i64 a1_2) ∧ w'.cell? ⟨gb243, 3, none⟩ = some (.int .i64 a1_3)) ∧ (Kd.R (Kd.int .i64) 3 w' w.heap.size (fun k_ => some k_ ≠ (s_.2.1 : Value).ownBlock ∧ some k_ ≠ (s_.2.2.1 : Value).ownBlock ∧ some k_ ≠ (s_.2.2.2.1 : Value).ownBlock ∧ some k_ ≠ (s_.2.2.2.2.1 : Value).ownBlock ∧ some k_ ≠ (s_.2.2.2.2.2.1 : Value).ownBlock) s_.1 t246) ∧ (Kd.R (Kd.int .i64) 3 w' w.heap.size (fun k_ => some k_ ≠ (s_.1 : Value).ownBlock ∧ some k_ ≠ (s_.2.2.1 : Value).ownBlock ∧ some k_ ≠ (s_.2.2.2.1 : Value).ownBlock ∧ some k_ ≠ (s_.2.2.2.2.1 : Value).ownBlock ∧ some k_ ≠ (s_.2.2.2.2.2.1 : Value).ownBlock) s_.2.1 t249) ∧ (Kd.R (Kd.int .i64) 3 w' w.heap.size (fun k_ => some k_ ≠ (s_.1 : Value).ownBlock ∧ some k_ ≠ (s_.2.1 : Value).ownBlock ∧ some k_ ≠ (s_.2.2.2.1 : Value).ownBlock ∧ some k_ ≠ (s_.2.2.2.2.1 : Value).ownBlock ∧ some k_ ≠ (s_.2.2.2.2.2.1 : Value).ownBlock) s_.2.2.1 t252) ∧ (Kd.R (Kd.int .i64) 3 w' w.heap.size (fun k_ => some k_ ≠ (s_.1 : Value).ownBlock ∧ some k_ ≠ (s_.2.1 : Value).ownBlock ∧ some k_ ≠ (s_.2.2.1 : Value).ownBlock ∧ some k_ ≠ (s_.2.2.2.2.1 : Value).ownBlock ∧ some k_ ≠ (s_.2.2.2.2.2.1 : Value).ownBlock) s_.2.2.2.1 t255) ∧ (Kd.R (Kd.int .i64) 3 w' w.heap.size (fun k_ => some k_ ≠ (s_.1 : Value).ownBlock ∧ some k_ ≠ (s_.2.1 : Value).ownBlock ∧ some k_ ≠ (s_.2.2.1 : Value).ownBlock ∧ some k_ ≠ (s_.2.2.2.1 : Value).ownBlock ∧ some k_ ≠ (s_.2.2.2.2.2.1 : Value).ownBlock) s_.2.2.2.2.1 t260) ∧ (Kd.R (Kd.int .i64) 3 w' w.heap.size (fun k_ => some k_ ≠ (s_.1 : Value).ownBlock ∧ some k_ ≠ (s_.2.1 : Value).ownBlock ∧ some k_ ≠ (s_.2.2.1 : Value).ownBlock ∧ some k_ ≠ (s_.2.2.2.1 : Value).ownBlock ∧ some k_ ≠ (s_.2.2.2.2.1 : Value).ownBlock) s_.2.2.2.2.2.1 t263) ∧ (w'.heap[gb242]? = some (.cells #[.slice A0_0 l0_0.length c0_0, .slice A0_1 l0_1.length c0_1] 24 (0, 0))) ∧ (w'.heap[gb243]? = some (.cells #[.slice A1_0 l1_0.length c1_0, .slice A1_1 l1_1.length c1_1, .int .i64 a1_2, .int .i64 a1_3] 33 (0, 0))) ∧ (w'.heap[s_.2.2.2.2.2.2]? = some (.cells #[.slice none 0 0, .slice none 0 0] 26 (0, 0))) ∧ (w.heap.size ≤ s_.2.2.2.2.2.2) ∧ (w.heap.size ≤ s_.2.2.2.2.2.2) ∧ (gb242 ≠ s_.2.2.2.2.2.2) ∧ (s_.2.2.2.2.2.2 ≠ gb242) ∧ (gb243 ≠ s_.2.2.2.2.2.2) ∧ (s_.2.2.2.2.2.2 ≠ gb243) ∧ (Below w.heap.size w w')) ?_ ?_
      rotate_left
      ·intro hCont
       refine two_ (i := 1) (j := 5) (Ni := some 25) (Nj := some 6) #[true, true, true, false, false, false, false] #[true, false, true, false, false, true, false] rfl rfl rfl rfl (by kernel_rfl) (by decide) (by decide) (fun K hK => ?_) (fun K hK => ?_)
       ·skip
        refine goes_ Try.func11 (by kernel_rfl) rfl #[.agg #[.slice A0_0 l0_0.length c0_0, .slice A0_1 l0_1.length c0_1]] (by rfl) rfl rfl (by (try simp only [List.map_toArray, List.map_cons, List.map_nil]); first | done | rfl | (simp only [List.length_drop, List.length_take]; rfl)) ?_
        with_reducible refine (laws_toTensor.calls k _ _ l0_0 _ _ l0_1 t246 t249 _ ?side1 ?side2 ?side3 ?side4 A19.out).mono ?_
        (case side1 => exact (Cu ((Kd.C_below HR0_0.out HB.out))))
        (case side2 => exact HC0_0.out)
        (case side3 => exact (Cu ((Kd.C_below HR0_1.out HB.out))))
        (case side4 => exact HC0_1.out)
        rintro e w44 ⟨v247, v250, rfl, ho0, ho1, hb⟩
        refine ⟨_, rfl, ?_⟩
        have HO248 := Ω5 (Kd.R_lower ho0 (below_size (HBu HB.out)))
        have HO251 := Ω5 (Kd.R_lower ho1 (below_size (HBu HB.out)))
        replace BK242 := Ω5 (Bb BK242.out hb)
        replace BK243 := Ω5 (Bb BK243.out hb)
        replace HB := Ω5 (below_step (HBu HB.out) hb)
        (try clear hb)
        (try clear hb2)
        (try clear hk)
        (try clear hi)
        (try clear ho0)
        (try clear ho1)
        refine hK.out _ _ ⟨(ΩJ BK242.out 0).trans rfl, (ΩJ BK242.out 1).trans rfl, (ΩJ BK243.out 0).trans rfl, (ΩJ BK243.out 1).trans rfl, (ΩJ BK243.out 2).trans rfl, (ΩJ BK243.out 3).trans rfl⟩ (fun hHeld => ?_)
        clear hK K
        refine norm_ (a' := ?_) ?_ ?_
        rotate_left
        ·show Act.put _ (some 25) _ = _
         simp only [Act.put, List.setIfInBounds_toArray, List.set_cons_zero, List.set_cons_succ, i64_w, i32_w]
         rfl
        refine two_ (i := 3) (j := 5) (Ni := some 27) (Nj := some 6) #[true, true, true, true, false, false, false] #[true, true, true, false, false, true, false] rfl rfl rfl rfl (by kernel_rfl) (by decide) (by decide) (fun K hK => ?_) (fun K hK => ?_)
        ·skip
         refine goes_ Try.func18 (by kernel_rfl) rfl #[.agg #[.slice A1_0 l1_0.length c1_0, .slice A1_1 l1_1.length c1_1, .int .i64 a1_2, .int .i64 a1_3]] (by rfl) rfl rfl (by (try simp only [List.map_toArray, List.map_cons, List.map_nil]); first | done | rfl | (simp only [List.length_drop, List.length_take]; rfl)) ?_
         with_reducible refine (laws_toView.calls k _ _ l1_0 _ _ l1_1 a1_2 a1_3 t252 t255 t258 t259 _ ?side1 ?side2 ?side3 ?side4 A20.out).mono ?_
         (case side1 => exact (Cu ((Kd.C_below HR1_0.out HB.out))))
         (case side2 => exact HC1_0.out)
         (case side3 => exact (Cu ((Kd.C_below HR1_1.out HB.out))))
         (case side4 => exact HC1_1.out)
         rintro e w45 ⟨v253, v256, rfl, ho0, ho1, hb⟩
         refine ⟨_, rfl, ?_⟩
         have HO254 := Ω5 (Kd.R_lower (Kd.R_new' (Kd.R_new' ho0 (Kd.R_lt (Ru HO248.out))) (Kd.R_lt (Ru HO251.out))) (below_size (HBu HB.out)))
         have HO257 := Ω5 (Kd.R_lower (Kd.R_new' (Kd.R_new' ho1 (Kd.R_lt (Ru HO248.out))) (Kd.R_lt (Ru HO251.out))) (below_size (HBu HB.out)))
         replace HO248 := Ω5 (Rt2 HO248.out hb ho0 ho1)
         replace HO251 := Ω5 (Rt2 HO251.out hb ho0 ho1)
         replace BK242 := Ω5 (Bb BK242.out hb)
         replace BK243 := Ω5 (Bb BK243.out hb)
         replace HB := Ω5 (below_step (HBu HB.out) hb)
         (try clear hb)
         (try clear hb2)
         (try clear hk)
         (try clear hi)
         (try clear ho0)
         (try clear ho1)
         obtain ⟨Ao46, co46, eo46⟩ := Kd.R_slice HO248.out
         (first | subst eo46 | (injection eo46 with f1_ f2_ f3_; have f4_ := f1_.symm; have f5_ := f3_.symm; clear f1_ f2_ f3_; subst f4_; subst f5_))
         obtain ⟨Ao47, co47, eo47⟩ := Kd.R_slice HO251.out
         (first | subst eo47 | (injection eo47 with f1_ f2_ f3_; have f4_ := f1_.symm; have f5_ := f3_.symm; clear f1_ f2_ f3_; subst f4_; subst f5_))
         obtain ⟨Ao48, co48, eo48⟩ := Kd.R_slice HO254.out
         (first | subst eo48 | (injection eo48 with f1_ f2_ f3_; have f4_ := f1_.symm; have f5_ := f3_.symm; clear f1_ f2_ f3_; subst f4_; subst f5_))
         obtain ⟨Ao49, co49, eo49⟩ := Kd.R_slice HO257.out
         (first | subst eo49 | (injection eo49 with f1_ f2_ f3_; have f4_ := f1_.symm; have f5_ := f3_.symm; clear f1_ f2_ f3_; subst f4_; subst f5_))
         refine hK.out _ _ ⟨(ΩJ BK242.out 0).trans rfl, (ΩJ BK242.out 1).trans rfl, (ΩJ BK243.out 0).trans rfl, (ΩJ BK243.out 1).trans rfl, (ΩJ BK243.out 2).trans rfl, (ΩJ BK243.out 3).trans rfl⟩ (fun hHeld => ?_)
         clear hK K
         refine norm_ (a' := ?_) ?_ ?_
         rotate_left
         ·show Act.put _ (some 27) _ = _
          simp only [Act.put, List.setIfInBounds_toArray, List.set_cons_zero, List.set_cons_succ, i64_w, i32_w]
          rfl
         refine two_ (i := 4) (j := 5) (Ni := some 28) (Nj := some 6) #[true, true, true, true, true, false, false] #[true, true, true, true, false, true, false] rfl rfl rfl rfl (by kernel_rfl) (by decide) (by decide) (fun K hK => ?_) (fun K hK => ?_)
         ·skip
          refine goes_ Try.func17 (by kernel_rfl) rfl #[.agg #[.slice Ao46 t246.length co46, .slice Ao47 t249.length co47], .agg #[.slice Ao48 t252.length co48, .slice Ao49 t255.length co49, .int .i64 t258, .int .i64 t259]] (by rfl) rfl rfl (by (try simp only [List.map_toArray, List.map_cons, List.map_nil]); first | done | rfl | (simp only [List.length_drop, List.length_take]; rfl)) ?_
          with_reducible refine (spec_Look.calls k _ _ t246 _ _ t249 _ _ t252 _ _ t255 t258 t259 t260 t263 _ ?side1 ?side2 ?side3 ?side4 ?side5 ?side6 ?side7 ?side8 A21.out).mono ?_
          (case side1 => exact (Cu ((Kd.R_reads' HO248.out).2.2)))
          (case side2 => exact (Kd.R_reads' HO248.out).2.1)
          (case side3 => exact (Cu ((Kd.R_reads' HO251.out).2.2)))
          (case side4 => exact (Kd.R_reads' HO251.out).2.1)
          (case side5 => exact (Cu ((Kd.R_reads' HO254.out).2.2)))
          (case side6 => exact (Kd.R_reads' HO254.out).2.1)
          (case side7 => exact (Cu ((Kd.R_reads' HO257.out).2.2)))
          (case side8 => exact (Kd.R_reads' HO257.out).2.1)
          rintro e w50 ⟨v261, v264, rfl, ho0, ho1, hb⟩
          refine ⟨_, rfl, ?_⟩
          have HO262 := Ω5 (Kd.R_lower (Kd.R_new' (Kd.R_new' (Kd.R_new' (Kd.R_new' ho0 (Kd.R_lt (Ru HO248.out))) (Kd.R_lt (Ru HO251.out))) (Kd.R_lt (Ru HO254.out))) (Kd.R_lt (Ru HO257.out))) (below_size (HBu HB.out)))
          have HO265 := Ω5 (Kd.R_lower (Kd.R_new' (Kd.R_new' (Kd.R_new' (Kd.R_new' ho1 (Kd.R_lt (Ru HO248.out))) (Kd.R_lt (Ru HO251.out))) (Kd.R_lt (Ru HO254.out))) (Kd.R_lt (Ru HO257.out))) (below_size (HBu HB.out)))
          replace HO248 := Ω5 (Rt2 HO248.out hb ho0 ho1)
          replace HO251 := Ω5 (Rt2 HO251.out hb ho0 ho1)
          replace HO254 := Ω5 (Rt2 HO254.out hb ho0 ho1)
          replace HO257 := Ω5 (Rt2 HO257.out hb ho0 ho1)
          replace BK242 := Ω5 (Bb BK242.out hb)
          replace BK243 := Ω5 (Bb BK243.out hb)
          replace HB := Ω5 (below_step (HBu HB.out) hb)
          (try clear hb)
          (try clear hb2)
          (try clear hk)
          (try clear hi)
          (try clear ho0)
          (try clear ho1)
          refine hK.out _ _ ⟨(ΩJ BK242.out 0).trans rfl, (ΩJ BK242.out 1).trans rfl, (ΩJ BK243.out 0).trans rfl, (ΩJ BK243.out 1).trans rfl, (ΩJ BK243.out 2).trans rfl, (ΩJ BK243.out 3).trans rfl⟩ (fun hHeld => ?_)
          clear hK K
          refine norm_ (a' := ?_) ?_ ?_
          rotate_left
          ·show Act.put _ (some 28) _ = _
           simp only [Act.put, List.setIfInBounds_toArray, List.set_cons_zero, List.set_cons_succ, i64_w, i32_w]
           rfl
          refine one_ (i := 5) (N := some 6) #[true, true, true, true, true, true, false] rfl rfl (by kernel_rfl) (by decide) (fun K hK => ?_)
          refine box_step ?hg (N := 6) ?hd (cs := #[.slice none 0 0, .slice none 0 0]) (t := 26) ?hr ?_; (case hd => rfl); (case hg => rfl); (case hr => first | (go_simp; done) | (go_simp; rfl))
          intro gb266 hg w51 hbox hb
          have BK266 := Ω5 (hbox)
          have GW266 := Ω5 ((by rw [hg]; exact (below_size (HBu HB.out)) : w.heap.size ≤ gb266))
          have GE266 := Ω5 ((by rw [hg]; exact (below_size (HBu HB.out)) : w.heap.size ≤ gb266))
          have NB242_266 := Ω5 ((by rw [hg]; exact Nat.ne_of_lt (blk_lt (g := gb242) (o := .cells #[.slice A0_0 l0_0.length c0_0, .slice A0_1 l0_1.length c0_1] 24 (0, 0)) (Bu BK242.out)) : gb242 ≠ gb266))
          have NB266_242 := Ω5 ((by rw [hg]; exact Nat.ne_of_gt (blk_lt (g := gb242) (o := .cells #[.slice A0_0 l0_0.length c0_0, .slice A0_1 l0_1.length c0_1] 24 (0, 0)) (Bu BK242.out)) : gb266 ≠ gb242))
          have NB243_266 := Ω5 ((by rw [hg]; exact Nat.ne_of_lt (blk_lt (g := gb243) (o := .cells #[.slice A1_0 l1_0.length c1_0, .slice A1_1 l1_1.length c1_1, .int .i64 a1_2, .int .i64 a1_3] 33 (0, 0)) (Bu BK243.out)) : gb243 ≠ gb266))
          have NB266_243 := Ω5 ((by rw [hg]; exact Nat.ne_of_gt (blk_lt (g := gb243) (o := .cells #[.slice A1_0 l1_0.length c1_0, .slice A1_1 l1_1.length c1_1, .int .i64 a1_2, .int .i64 a1_3] 33 (0, 0)) (Bu BK243.out)) : gb266 ≠ gb243))
          replace HO248 := Ω5 (Rb HO248.out hb)
          replace HO251 := Ω5 (Rb HO251.out hb)
          replace HO254 := Ω5 (Rb HO254.out hb)
          replace HO257 := Ω5 (Rb HO257.out hb)
          replace HO262 := Ω5 (Rb HO262.out hb)
          replace HO265 := Ω5 (Rb HO265.out hb)
          replace BK242 := Ω5 (Bb BK242.out hb)
          replace BK243 := Ω5 (Bb BK243.out hb)
          replace HB := Ω5 (below_step (HBu HB.out) hb)
          clear hb hbox hg
          refine hK.out _ _ ⟨(ΩJ BK242.out 0).trans rfl, (ΩJ BK242.out 1).trans rfl, (ΩJ BK243.out 0).trans rfl, (ΩJ BK243.out 1).trans rfl, (ΩJ BK243.out 2).trans rfl, (ΩJ BK243.out 3).trans rfl⟩ (fun hHeld => ?_)
          clear hK K
          refine norm_ (a' := ?_) ?_ ?_
          rotate_left
          ·show Act.put _ (some 6) _ = _
           simp only [Act.put, List.setIfInBounds_toArray, List.set_cons_zero, List.set_cons_succ, i64_w, i32_w]
           rfl
          exact norm_ (by simp only [putAll, Act.put, List.setIfInBounds_toArray, List.set_cons_zero, List.set_cons_succ]) (hCont (.slice Ao46 t246.length co46, .slice Ao47 t249.length co47, .slice Ao48 t252.length co48, .slice Ao49 t255.length co49, v261, v264, gb266) _ ⟨hHeld, (Ru (ΩE HO248.out (fun _ hk => ⟨hk.1.1.1.1, ⟨hk.1.1.1.2, ⟨hk.1.1.2, ⟨hk.1.2, hk.2⟩⟩⟩⟩))), (Ru (ΩE HO251.out (fun _ hk => ⟨hk.1.1.1.1, ⟨hk.1.1.1.2, ⟨hk.1.1.2, ⟨hk.1.2, hk.2⟩⟩⟩⟩))), (Ru (ΩE HO254.out (fun _ hk => ⟨hk.1.1.1.2, ⟨hk.1.1.2, ⟨hk.1.1.1.1, ⟨hk.1.2, hk.2⟩⟩⟩⟩))), (Ru (ΩE HO257.out (fun _ hk => ⟨hk.1.1.1.2, ⟨hk.1.1.2, ⟨hk.1.1.1.1, ⟨hk.1.2, hk.2⟩⟩⟩⟩))), (Ru (ΩE HO262.out (fun _ hk => ⟨hk.1.1.1.2, ⟨hk.1.1.2, ⟨hk.1.2, ⟨hk.2, hk.1.1.1.1⟩⟩⟩⟩))), (Ru (ΩE HO265.out (fun _ hk => ⟨hk.1.1.1.2, ⟨hk.1.1.2, ⟨hk.1.2, ⟨hk.2, hk.1.1.1.1⟩⟩⟩⟩))), (Bu BK242.out), (Bu BK243.out), (Bu BK266.out), GW266.out, GE266.out, NB242_266.out, NB266_242.out, NB243_266.out, NB266_243.out, (HBu HB.out)⟩)
         ·skip
          refine box_step ?hg (N := 6) ?hd (cs := #[.slice none 0 0, .slice none 0 0]) (t := 26) ?hr ?_; (case hd => rfl); (case hg => rfl); (case hr => first | (go_simp; done) | (go_simp; rfl))
          intro gb266 hg w46 hbox hb
          have BK266 := Ω5 (hbox)
          have GW266 := Ω5 ((by rw [hg]; exact (below_size (HBu HB.out)) : w.heap.size ≤ gb266))
          have GE266 := Ω5 ((by rw [hg]; exact (below_size (HBu HB.out)) : w.heap.size ≤ gb266))
          have NB242_266 := Ω5 ((by rw [hg]; exact Nat.ne_of_lt (blk_lt (g := gb242) (o := .cells #[.slice A0_0 l0_0.length c0_0, .slice A0_1 l0_1.length c0_1] 24 (0, 0)) (Bu BK242.out)) : gb242 ≠ gb266))
          have NB266_242 := Ω5 ((by rw [hg]; exact Nat.ne_of_gt (blk_lt (g := gb242) (o := .cells #[.slice A0_0 l0_0.length c0_0, .slice A0_1 l0_1.length c0_1] 24 (0, 0)) (Bu BK242.out)) : gb266 ≠ gb242))
          have NB243_266 := Ω5 ((by rw [hg]; exact Nat.ne_of_lt (blk_lt (g := gb243) (o := .cells #[.slice A1_0 l1_0.length c1_0, .slice A1_1 l1_1.length c1_1, .int .i64 a1_2, .int .i64 a1_3] 33 (0, 0)) (Bu BK243.out)) : gb243 ≠ gb266))
          have NB266_243 := Ω5 ((by rw [hg]; exact Nat.ne_of_gt (blk_lt (g := gb243) (o := .cells #[.slice A1_0 l1_0.length c1_0, .slice A1_1 l1_1.length c1_1, .int .i64 a1_2, .int .i64 a1_3] 33 (0, 0)) (Bu BK243.out)) : gb266 ≠ gb243))
          replace HO248 := Ω5 (Rb HO248.out hb)
          replace HO251 := Ω5 (Rb HO251.out hb)
          replace HO254 := Ω5 (Rb HO254.out hb)
          replace HO257 := Ω5 (Rb HO257.out hb)
          replace BK242 := Ω5 (Bb BK242.out hb)
          replace BK243 := Ω5 (Bb BK243.out hb)
          replace HB := Ω5 (below_step (HBu HB.out) hb)
          clear hb hbox hg
          obtain ⟨Ao47, co47, eo47⟩ := Kd.R_slice HO248.out
          (first | subst eo47 | (injection eo47 with f1_ f2_ f3_; have f4_ := f1_.symm; have f5_ := f3_.symm; clear f1_ f2_ f3_; subst f4_; subst f5_))
          obtain ⟨Ao48, co48, eo48⟩ := Kd.R_slice HO251.out
          (first | subst eo48 | (injection eo48 with f1_ f2_ f3_; have f4_ := f1_.symm; have f5_ := f3_.symm; clear f1_ f2_ f3_; subst f4_; subst f5_))
          obtain ⟨Ao49, co49, eo49⟩ := Kd.R_slice HO254.out
          (first | subst eo49 | (injection eo49 with f1_ f2_ f3_; have f4_ := f1_.symm; have f5_ := f3_.symm; clear f1_ f2_ f3_; subst f4_; subst f5_))
          obtain ⟨Ao50, co50, eo50⟩ := Kd.R_slice HO257.out
          (first | subst eo50 | (injection eo50 with f1_ f2_ f3_; have f4_ := f1_.symm; have f5_ := f3_.symm; clear f1_ f2_ f3_; subst f4_; subst f5_))
          refine hK.out _ _ ⟨(ΩJ BK242.out 0).trans rfl, (ΩJ BK242.out 1).trans rfl, (ΩJ BK243.out 0).trans rfl, (ΩJ BK243.out 1).trans rfl, (ΩJ BK243.out 2).trans rfl, (ΩJ BK243.out 3).trans rfl⟩ (fun hHeld => ?_)
          clear hK K
          refine norm_ (a' := ?_) ?_ ?_
          rotate_left
          ·show Act.put _ (some 6) _ = _
           simp only [Act.put, List.setIfInBounds_toArray, List.set_cons_zero, List.set_cons_succ, i64_w, i32_w]
           rfl
          refine one_ (i := 4) (N := some 28) #[true, true, true, true, true, true, false] rfl rfl (by kernel_rfl) (by decide) (fun K hK => ?_)
          refine goes_ Try.func17 (by kernel_rfl) rfl #[.agg #[.slice Ao47 t246.length co47, .slice Ao48 t249.length co48], .agg #[.slice Ao49 t252.length co49, .slice Ao50 t255.length co50, .int .i64 t258, .int .i64 t259]] (by rfl) rfl rfl (by (try simp only [List.map_toArray, List.map_cons, List.map_nil]); first | done | rfl | (simp only [List.length_drop, List.length_take]; rfl)) ?_
          with_reducible refine (spec_Look.calls k _ _ t246 _ _ t249 _ _ t252 _ _ t255 t258 t259 t260 t263 _ ?side1 ?side2 ?side3 ?side4 ?side5 ?side6 ?side7 ?side8 A21.out).mono ?_
          (case side1 => exact (Cu ((Kd.R_reads' HO248.out).2.2)))
          (case side2 => exact (Kd.R_reads' HO248.out).2.1)
          (case side3 => exact (Cu ((Kd.R_reads' HO251.out).2.2)))
          (case side4 => exact (Kd.R_reads' HO251.out).2.1)
          (case side5 => exact (Cu ((Kd.R_reads' HO254.out).2.2)))
          (case side6 => exact (Kd.R_reads' HO254.out).2.1)
          (case side7 => exact (Cu ((Kd.R_reads' HO257.out).2.2)))
          (case side8 => exact (Kd.R_reads' HO257.out).2.1)
          rintro e w51 ⟨v261, v264, rfl, ho0, ho1, hb⟩
          refine ⟨_, rfl, ?_⟩
          have HO262 := Ω5 (Kd.R_lower (Kd.R_new' (Kd.R_new' (Kd.R_new' (Kd.R_new' ho0 (Kd.R_lt (Ru HO248.out))) (Kd.R_lt (Ru HO251.out))) (Kd.R_lt (Ru HO254.out))) (Kd.R_lt (Ru HO257.out))) (below_size (HBu HB.out)))
          have HO265 := Ω5 (Kd.R_lower (Kd.R_new' (Kd.R_new' (Kd.R_new' (Kd.R_new' ho1 (Kd.R_lt (Ru HO248.out))) (Kd.R_lt (Ru HO251.out))) (Kd.R_lt (Ru HO254.out))) (Kd.R_lt (Ru HO257.out))) (below_size (HBu HB.out)))
          replace HO248 := Ω5 (Rt2 HO248.out hb ho0 ho1)
          replace HO251 := Ω5 (Rt2 HO251.out hb ho0 ho1)
          replace HO254 := Ω5 (Rt2 HO254.out hb ho0 ho1)
          replace HO257 := Ω5 (Rt2 HO257.out hb ho0 ho1)
          replace BK242 := Ω5 (Bb BK242.out hb)
          replace BK243 := Ω5 (Bb BK243.out hb)
          replace BK266 := Ω5 (Bb BK266.out hb)
          replace HB := Ω5 (below_step (HBu HB.out) hb)
          (try clear hb)
          (try clear hb2)
          (try clear hk)
          (try clear hi)
          (try clear ho0)
          (try clear ho1)
          refine hK.out _ _ ⟨(ΩJ BK242.out 0).trans rfl, (ΩJ BK242.out 1).trans rfl, (ΩJ BK243.out 0).trans rfl, (ΩJ BK243.out 1).trans rfl, (ΩJ BK243.out 2).trans rfl, (ΩJ BK243.out 3).trans rfl⟩ (fun hHeld => ?_)
          clear hK K
          refine norm_ (a' := ?_) ?_ ?_
          rotate_left
          ·show Act.put _ (some 28) _ = _
           simp only [Act.put, List.setIfInBounds_toArray, List.set_cons_zero, List.set_cons_succ, i64_w, i32_w]
           rfl
          exact norm_ (by simp only [putAll, Act.put, List.setIfInBounds_toArray, List.set_cons_zero, List.set_cons_succ]) (hCont (.slice Ao47 t246.length co47, .slice Ao48 t249.length co48, .slice Ao49 t252.length co49, .slice Ao50 t255.length co50, v261, v264, gb266) _ ⟨hHeld, (Ru (ΩE HO248.out (fun _ hk => ⟨hk.1.1.1.1, ⟨hk.1.1.1.2, ⟨hk.1.1.2, ⟨hk.1.2, hk.2⟩⟩⟩⟩))), (Ru (ΩE HO251.out (fun _ hk => ⟨hk.1.1.1.1, ⟨hk.1.1.1.2, ⟨hk.1.1.2, ⟨hk.1.2, hk.2⟩⟩⟩⟩))), (Ru (ΩE HO254.out (fun _ hk => ⟨hk.1.1.1.2, ⟨hk.1.1.2, ⟨hk.1.1.1.1, ⟨hk.1.2, hk.2⟩⟩⟩⟩))), (Ru (ΩE HO257.out (fun _ hk => ⟨hk.1.1.1.2, ⟨hk.1.1.2, ⟨hk.1.1.1.1, ⟨hk.1.2, hk.2⟩⟩⟩⟩))), (Ru (ΩE HO262.out (fun _ hk => ⟨hk.1.1.1.2, ⟨hk.1.1.2, ⟨hk.1.2, ⟨hk.2, hk.1.1.1.1⟩⟩⟩⟩))), (Ru (ΩE HO265.out (fun _ hk => ⟨hk.1.1.1.2, ⟨hk.1.1.2, ⟨hk.1.2, ⟨hk.2, hk.1.1.1.1⟩⟩⟩⟩))), (Bu BK242.out), (Bu BK243.out), (Bu BK266.out), GW266.out, GE266.out, NB242_266.out, NB266_242.out, NB243_266.out, NB266_243.out, (HBu HB.out)⟩)
        ·skip
         refine box_step ?hg (N := 6) ?hd (cs := #[.slice none 0 0, .slice none 0 0]) (t := 26) ?hr ?_; (case hd => rfl); (case hg => rfl); (case hr => first | (go_simp; done) | (go_simp; rfl))
         intro gb266 hg w45 hbox hb
         have BK266 := Ω5 (hbox)
         have GW266 := Ω5 ((by rw [hg]; exact (below_size (HBu HB.out)) : w.heap.size ≤ gb266))
         have GE266 := Ω5 ((by rw [hg]; exact (below_size (HBu HB.out)) : w.heap.size ≤ gb266))
         have NB242_266 := Ω5 ((by rw [hg]; exact Nat.ne_of_lt (blk_lt (g := gb242) (o := .cells #[.slice A0_0 l0_0.length c0_0, .slice A0_1 l0_1.length c0_1] 24 (0, 0)) (Bu BK242.out)) : gb242 ≠ gb266))
         have NB266_242 := Ω5 ((by rw [hg]; exact Nat.ne_of_gt (blk_lt (g := gb242) (o := .cells #[.slice A0_0 l0_0.length c0_0, .slice A0_1 l0_1.length c0_1] 24 (0, 0)) (Bu BK242.out)) : gb266 ≠ gb242))
         have NB243_266 := Ω5 ((by rw [hg]; exact Nat.ne_of_lt (blk_lt (g := gb243) (o := .cells #[.slice A1_0 l1_0.length c1_0, .slice A1_1 l1_1.length c1_1, .int .i64 a1_2, .int .i64 a1_3] 33 (0, 0)) (Bu BK243.out)) : gb243 ≠ gb266))
         have NB266_243 := Ω5 ((by rw [hg]; exact Nat.ne_of_gt (blk_lt (g := gb243) (o := .cells #[.slice A1_0 l1_0.length c1_0, .slice A1_1 l1_1.length c1_1, .int .i64 a1_2, .int .i64 a1_3] 33 (0, 0)) (Bu BK243.out)) : gb266 ≠ gb243))
         replace HO248 := Ω5 (Rb HO248.out hb)
         replace HO251 := Ω5 (Rb HO251.out hb)
         replace BK242 := Ω5 (Bb BK242.out hb)
         replace BK243 := Ω5 (Bb BK243.out hb)
         replace HB := Ω5 (below_step (HBu HB.out) hb)
         clear hb hbox hg
         refine hK.out _ _ ⟨(ΩJ BK242.out 0).trans rfl, (ΩJ BK242.out 1).trans rfl, (ΩJ BK243.out 0).trans rfl, (ΩJ BK243.out 1).trans rfl, (ΩJ BK243.out 2).trans rfl, (ΩJ BK243.out 3).trans rfl⟩ (fun hHeld => ?_)
         clear hK K
         refine norm_ (a' := ?_) ?_ ?_
         rotate_left
         ·show Act.put _ (some 6) _ = _
          simp only [Act.put, List.setIfInBounds_toArray, List.set_cons_zero, List.set_cons_succ, i64_w, i32_w]
          rfl
         refine one_ (i := 3) (N := some 27) #[true, true, true, true, false, true, false] rfl rfl (by kernel_rfl) (by decide) (fun K hK => ?_)
         refine goes_ Try.func18 (by kernel_rfl) rfl #[.agg #[.slice A1_0 l1_0.length c1_0, .slice A1_1 l1_1.length c1_1, .int .i64 a1_2, .int .i64 a1_3]] (by rfl) rfl rfl (by (try simp only [List.map_toArray, List.map_cons, List.map_nil]); first | done | rfl | (simp only [List.length_drop, List.length_take]; rfl)) ?_
         with_reducible refine (laws_toView.calls k _ _ l1_0 _ _ l1_1 a1_2 a1_3 t252 t255 t258 t259 _ ?side1 ?side2 ?side3 ?side4 A20.out).mono ?_
         (case side1 => exact (Cu ((Kd.C_below HR1_0.out HB.out))))
         (case side2 => exact HC1_0.out)
         (case side3 => exact (Cu ((Kd.C_below HR1_1.out HB.out))))
         (case side4 => exact HC1_1.out)
         rintro e w46 ⟨v253, v256, rfl, ho0, ho1, hb⟩
         refine ⟨_, rfl, ?_⟩
         have HO254 := Ω5 (Kd.R_lower (Kd.R_new' (Kd.R_new' ho0 (Kd.R_lt (Ru HO248.out))) (Kd.R_lt (Ru HO251.out))) (below_size (HBu HB.out)))
         have HO257 := Ω5 (Kd.R_lower (Kd.R_new' (Kd.R_new' ho1 (Kd.R_lt (Ru HO248.out))) (Kd.R_lt (Ru HO251.out))) (below_size (HBu HB.out)))
         replace HO248 := Ω5 (Rt2 HO248.out hb ho0 ho1)
         replace HO251 := Ω5 (Rt2 HO251.out hb ho0 ho1)
         replace BK242 := Ω5 (Bb BK242.out hb)
         replace BK243 := Ω5 (Bb BK243.out hb)
         replace BK266 := Ω5 (Bb BK266.out hb)
         replace HB := Ω5 (below_step (HBu HB.out) hb)
         (try clear hb)
         (try clear hb2)
         (try clear hk)
         (try clear hi)
         (try clear ho0)
         (try clear ho1)
         obtain ⟨Ao47, co47, eo47⟩ := Kd.R_slice HO248.out
         (first | subst eo47 | (injection eo47 with f1_ f2_ f3_; have f4_ := f1_.symm; have f5_ := f3_.symm; clear f1_ f2_ f3_; subst f4_; subst f5_))
         obtain ⟨Ao48, co48, eo48⟩ := Kd.R_slice HO251.out
         (first | subst eo48 | (injection eo48 with f1_ f2_ f3_; have f4_ := f1_.symm; have f5_ := f3_.symm; clear f1_ f2_ f3_; subst f4_; subst f5_))
         obtain ⟨Ao49, co49, eo49⟩ := Kd.R_slice HO254.out
         (first | subst eo49 | (injection eo49 with f1_ f2_ f3_; have f4_ := f1_.symm; have f5_ := f3_.symm; clear f1_ f2_ f3_; subst f4_; subst f5_))
         obtain ⟨Ao50, co50, eo50⟩ := Kd.R_slice HO257.out
         (first | subst eo50 | (injection eo50 with f1_ f2_ f3_; have f4_ := f1_.symm; have f5_ := f3_.symm; clear f1_ f2_ f3_; subst f4_; subst f5_))
         refine hK.out _ _ ⟨(ΩJ BK242.out 0).trans rfl, (ΩJ BK242.out 1).trans rfl, (ΩJ BK243.out 0).trans rfl, (ΩJ BK243.out 1).trans rfl, (ΩJ BK243.out 2).trans rfl, (ΩJ BK243.out 3).trans rfl⟩ (fun hHeld => ?_)
         clear hK K
         refine norm_ (a' := ?_) ?_ ?_
         rotate_left
         ·show Act.put _ (some 27) _ = _
          simp only [Act.put, List.setIfInBounds_toArray, List.set_cons_zero, List.set_cons_succ, i64_w, i32_w]
          rfl
         refine one_ (i := 4) (N := some 28) #[true, true, true, true, true, true, false] rfl rfl (by kernel_rfl) (by decide) (fun K hK => ?_)
         refine goes_ Try.func17 (by kernel_rfl) rfl #[.agg #[.slice Ao47 t246.length co47, .slice Ao48 t249.length co48], .agg #[.slice Ao49 t252.length co49, .slice Ao50 t255.length co50, .int .i64 t258, .int .i64 t259]] (by rfl) rfl rfl (by (try simp only [List.map_toArray, List.map_cons, List.map_nil]); first | done | rfl | (simp only [List.length_drop, List.length_take]; rfl)) ?_
         with_reducible refine (spec_Look.calls k _ _ t246 _ _ t249 _ _ t252 _ _ t255 t258 t259 t260 t263 _ ?side1 ?side2 ?side3 ?side4 ?side5 ?side6 ?side7 ?side8 A21.out).mono ?_
         (case side1 => exact (Cu ((Kd.R_reads' HO248.out).2.2)))
         (case side2 => exact (Kd.R_reads' HO248.out).2.1)
         (case side3 => exact (Cu ((Kd.R_reads' HO251.out).2.2)))
         (case side4 => exact (Kd.R_reads' HO251.out).2.1)
         (case side5 => exact (Cu ((Kd.R_reads' HO254.out).2.2)))
         (case side6 => exact (Kd.R_reads' HO254.out).2.1)
         (case side7 => exact (Cu ((Kd.R_reads' HO257.out).2.2)))
         (case side8 => exact (Kd.R_reads' HO257.out).2.1)
         rintro e w51 ⟨v261, v264, rfl, ho0, ho1, hb⟩
         refine ⟨_, rfl, ?_⟩
         have HO262 := Ω5 (Kd.R_lower (Kd.R_new' (Kd.R_new' (Kd.R_new' (Kd.R_new' ho0 (Kd.R_lt (Ru HO248.out))) (Kd.R_lt (Ru HO251.out))) (Kd.R_lt (Ru HO254.out))) (Kd.R_lt (Ru HO257.out))) (below_size (HBu HB.out)))
         have HO265 := Ω5 (Kd.R_lower (Kd.R_new' (Kd.R_new' (Kd.R_new' (Kd.R_new' ho1 (Kd.R_lt (Ru HO248.out))) (Kd.R_lt (Ru HO251.out))) (Kd.R_lt (Ru HO254.out))) (Kd.R_lt (Ru HO257.out))) (below_size (HBu HB.out)))
         replace HO248 := Ω5 (Rt2 HO248.out hb ho0 ho1)
         replace HO251 := Ω5 (Rt2 HO251.out hb ho0 ho1)
         replace HO254 := Ω5 (Rt2 HO254.out hb ho0 ho1)
         replace HO257 := Ω5 (Rt2 HO257.out hb ho0 ho1)
         replace BK242 := Ω5 (Bb BK242.out hb)
         replace BK243 := Ω5 (Bb BK243.out hb)
         replace BK266 := Ω5 (Bb BK266.out hb)
         replace HB := Ω5 (below_step (HBu HB.out) hb)
         (try clear hb)
         (try clear hb2)
         (try clear hk)
         (try clear hi)
         (try clear ho0)
         (try clear ho1)
         refine hK.out _ _ ⟨(ΩJ BK242.out 0).trans rfl, (ΩJ BK242.out 1).trans rfl, (ΩJ BK243.out 0).trans rfl, (ΩJ BK243.out 1).trans rfl, (ΩJ BK243.out 2).trans rfl, (ΩJ BK243.out 3).trans rfl⟩ (fun hHeld => ?_)
         clear hK K
         refine norm_ (a' := ?_) ?_ ?_
         rotate_left
         ·show Act.put _ (some 28) _ = _
          simp only [Act.put, List.setIfInBounds_toArray, List.set_cons_zero, List.set_cons_succ, i64_w, i32_w]
          rfl
         exact norm_ (by simp only [putAll, Act.put, List.setIfInBounds_toArray, List.set_cons_zero, List.set_cons_succ]) (hCont (.slice Ao47 t246.length co47, .slice Ao48 t249.length co48, .slice Ao49 t252.length co49, .slice Ao50 t255.length co50, v261, v264, gb266) _ ⟨hHeld, (Ru (ΩE HO248.out (fun _ hk => ⟨hk.1.1.1.1, ⟨hk.1.1.1.2, ⟨hk.1.1.2, ⟨hk.1.2, hk.2⟩⟩⟩⟩))), (Ru (ΩE HO251.out (fun _ hk => ⟨hk.1.1.1.1, ⟨hk.1.1.1.2, ⟨hk.1.1.2, ⟨hk.1.2, hk.2⟩⟩⟩⟩))), (Ru (ΩE HO254.out (fun _ hk => ⟨hk.1.1.1.2, ⟨hk.1.1.2, ⟨hk.1.1.1.1, ⟨hk.1.2, hk.2⟩⟩⟩⟩))), (Ru (ΩE HO257.out (fun _ hk => ⟨hk.1.1.1.2, ⟨hk.1.1.2, ⟨hk.1.1.1.1, ⟨hk.1.2, hk.2⟩⟩⟩⟩))), (Ru (ΩE HO262.out (fun _ hk => ⟨hk.1.1.1.2, ⟨hk.1.1.2, ⟨hk.1.2, ⟨hk.2, hk.1.1.1.1⟩⟩⟩⟩))), (Ru (ΩE HO265.out (fun _ hk => ⟨hk.1.1.1.2, ⟨hk.1.1.2, ⟨hk.1.2, ⟨hk.2, hk.1.1.1.1⟩⟩⟩⟩))), (Bu BK242.out), (Bu BK243.out), (Bu BK266.out), GW266.out, GE266.out, NB242_266.out, NB266_242.out, NB243_266.out, NB266_243.out, (HBu HB.out)⟩)
       ·skip
        refine box_step ?hg (N := 6) ?hd (cs := #[.slice none 0 0, .slice none 0 0]) (t := 26) ?hr ?_; (case hd => rfl); (case hg => rfl); (case hr => first | (go_simp; done) | (go_simp; rfl))
        intro gb266 hg w44 hbox hb
        have BK266 := Ω5 (hbox)
        have GW266 := Ω5 ((by rw [hg]; exact (below_size (HBu HB.out)) : w.heap.size ≤ gb266))
        have GE266 := Ω5 ((by rw [hg]; exact (below_size (HBu HB.out)) : w.heap.size ≤ gb266))
        have NB242_266 := Ω5 ((by rw [hg]; exact Nat.ne_of_lt (blk_lt (g := gb242) (o := .cells #[.slice A0_0 l0_0.length c0_0, .slice A0_1 l0_1.length c0_1] 24 (0, 0)) (Bu BK242.out)) : gb242 ≠ gb266))
        have NB266_242 := Ω5 ((by rw [hg]; exact Nat.ne_of_gt (blk_lt (g := gb242) (o := .cells #[.slice A0_0 l0_0.length c0_0, .slice A0_1 l0_1.length c0_1] 24 (0, 0)) (Bu BK242.out)) : gb266 ≠ gb242))
        have NB243_266 := Ω5 ((by rw [hg]; exact Nat.ne_of_lt (blk_lt (g := gb243) (o := .cells #[.slice A1_0 l1_0.length c1_0, .slice A1_1 l1_1.length c1_1, .int .i64 a1_2, .int .i64 a1_3] 33 (0, 0)) (Bu BK243.out)) : gb243 ≠ gb266))
        have NB266_243 := Ω5 ((by rw [hg]; exact Nat.ne_of_gt (blk_lt (g := gb243) (o := .cells #[.slice A1_0 l1_0.length c1_0, .slice A1_1 l1_1.length c1_1, .int .i64 a1_2, .int .i64 a1_3] 33 (0, 0)) (Bu BK243.out)) : gb266 ≠ gb243))
        replace BK242 := Ω5 (Bb BK242.out hb)
        replace BK243 := Ω5 (Bb BK243.out hb)
        replace HB := Ω5 (below_step (HBu HB.out) hb)
        clear hb hbox hg
        refine hK.out _ _ ⟨(ΩJ BK242.out 0).trans rfl, (ΩJ BK242.out 1).trans rfl, (ΩJ BK243.out 0).trans rfl, (ΩJ BK243.out 1).trans rfl, (ΩJ BK243.out 2).trans rfl, (ΩJ BK243.out 3).trans rfl⟩ (fun hHeld => ?_)
        clear hK K
        refine norm_ (a' := ?_) ?_ ?_
        rotate_left
        ·show Act.put _ (some 6) _ = _
         simp only [Act.put, List.setIfInBounds_toArray, List.set_cons_zero, List.set_cons_succ, i64_w, i32_w]
         rfl
        refine one_ (i := 1) (N := some 25) #[true, true, true, false, false, true, false] rfl rfl (by kernel_rfl) (by decide) (fun K hK => ?_)
        refine goes_ Try.func11 (by kernel_rfl) rfl #[.agg #[.slice A0_0 l0_0.length c0_0, .slice A0_1 l0_1.length c0_1]] (by rfl) rfl rfl (by (try simp only [List.map_toArray, List.map_cons, List.map_nil]); first | done | rfl | (simp only [List.length_drop, List.length_take]; rfl)) ?_
        with_reducible refine (laws_toTensor.calls k _ _ l0_0 _ _ l0_1 t246 t249 _ ?side1 ?side2 ?side3 ?side4 A19.out).mono ?_
        (case side1 => exact (Cu ((Kd.C_below HR0_0.out HB.out))))
        (case side2 => exact HC0_0.out)
        (case side3 => exact (Cu ((Kd.C_below HR0_1.out HB.out))))
        (case side4 => exact HC0_1.out)
        rintro e w45 ⟨v247, v250, rfl, ho0, ho1, hb⟩
        refine ⟨_, rfl, ?_⟩
        have HO248 := Ω5 (Kd.R_lower ho0 (below_size (HBu HB.out)))
        have HO251 := Ω5 (Kd.R_lower ho1 (below_size (HBu HB.out)))
        replace BK242 := Ω5 (Bb BK242.out hb)
        replace BK243 := Ω5 (Bb BK243.out hb)
        replace BK266 := Ω5 (Bb BK266.out hb)
        replace HB := Ω5 (below_step (HBu HB.out) hb)
        (try clear hb)
        (try clear hb2)
        (try clear hk)
        (try clear hi)
        (try clear ho0)
        (try clear ho1)
        refine hK.out _ _ ⟨(ΩJ BK242.out 0).trans rfl, (ΩJ BK242.out 1).trans rfl, (ΩJ BK243.out 0).trans rfl, (ΩJ BK243.out 1).trans rfl, (ΩJ BK243.out 2).trans rfl, (ΩJ BK243.out 3).trans rfl⟩ (fun hHeld => ?_)
        clear hK K
        refine norm_ (a' := ?_) ?_ ?_
        rotate_left
        ·show Act.put _ (some 25) _ = _
         simp only [Act.put, List.setIfInBounds_toArray, List.set_cons_zero, List.set_cons_succ, i64_w, i32_w]
         rfl
        refine one_ (i := 3) (N := some 27) #[true, true, true, true, false, true, false] rfl rfl (by kernel_rfl) (by decide) (fun K hK => ?_)
        refine goes_ Try.func18 (by kernel_rfl) rfl #[.agg #[.slice A1_0 l1_0.length c1_0, .slice A1_1 l1_1.length c1_1, .int .i64 a1_2, .int .i64 a1_3]] (by rfl) rfl rfl (by (try simp only [List.map_toArray, List.map_cons, List.map_nil]); first | done | rfl | (simp only [List.length_drop, List.length_take]; rfl)) ?_
        with_reducible refine (laws_toView.calls k _ _ l1_0 _ _ l1_1 a1_2 a1_3 t252 t255 t258 t259 _ ?side1 ?side2 ?side3 ?side4 A20.out).mono ?_
        (case side1 => exact (Cu ((Kd.C_below HR1_0.out HB.out))))
        (case side2 => exact HC1_0.out)
        (case side3 => exact (Cu ((Kd.C_below HR1_1.out HB.out))))
        (case side4 => exact HC1_1.out)
        rintro e w46 ⟨v253, v256, rfl, ho0, ho1, hb⟩
        refine ⟨_, rfl, ?_⟩
        have HO254 := Ω5 (Kd.R_lower (Kd.R_new' (Kd.R_new' ho0 (Kd.R_lt (Ru HO248.out))) (Kd.R_lt (Ru HO251.out))) (below_size (HBu HB.out)))
        have HO257 := Ω5 (Kd.R_lower (Kd.R_new' (Kd.R_new' ho1 (Kd.R_lt (Ru HO248.out))) (Kd.R_lt (Ru HO251.out))) (below_size (HBu HB.out)))
        replace HO248 := Ω5 (Rt2 HO248.out hb ho0 ho1)
        replace HO251 := Ω5 (Rt2 HO251.out hb ho0 ho1)
        replace BK242 := Ω5 (Bb BK242.out hb)
        replace BK243 := Ω5 (Bb BK243.out hb)
        replace BK266 := Ω5 (Bb BK266.out hb)
        replace HB := Ω5 (below_step (HBu HB.out) hb)
        (try clear hb)
        (try clear hb2)
        (try clear hk)
        (try clear hi)
        (try clear ho0)
        (try clear ho1)
        obtain ⟨Ao47, co47, eo47⟩ := Kd.R_slice HO248.out
        (first | subst eo47 | (injection eo47 with f1_ f2_ f3_; have f4_ := f1_.symm; have f5_ := f3_.symm; clear f1_ f2_ f3_; subst f4_; subst f5_))
        obtain ⟨Ao48, co48, eo48⟩ := Kd.R_slice HO251.out
        (first | subst eo48 | (injection eo48 with f1_ f2_ f3_; have f4_ := f1_.symm; have f5_ := f3_.symm; clear f1_ f2_ f3_; subst f4_; subst f5_))
        obtain ⟨Ao49, co49, eo49⟩ := Kd.R_slice HO254.out
        (first | subst eo49 | (injection eo49 with f1_ f2_ f3_; have f4_ := f1_.symm; have f5_ := f3_.symm; clear f1_ f2_ f3_; subst f4_; subst f5_))
        obtain ⟨Ao50, co50, eo50⟩ := Kd.R_slice HO257.out
        (first | subst eo50 | (injection eo50 with f1_ f2_ f3_; have f4_ := f1_.symm; have f5_ := f3_.symm; clear f1_ f2_ f3_; subst f4_; subst f5_))
        refine hK.out _ _ ⟨(ΩJ BK242.out 0).trans rfl, (ΩJ BK242.out 1).trans rfl, (ΩJ BK243.out 0).trans rfl, (ΩJ BK243.out 1).trans rfl, (ΩJ BK243.out 2).trans rfl, (ΩJ BK243.out 3).trans rfl⟩ (fun hHeld => ?_)
        clear hK K
        refine norm_ (a' := ?_) ?_ ?_
        rotate_left
        ·show Act.put _ (some 27) _ = _
         simp only [Act.put, List.setIfInBounds_toArray, List.set_cons_zero, List.set_cons_succ, i64_w, i32_w]
         rfl
        refine one_ (i := 4) (N := some 28) #[true, true, true, true, true, true, false] rfl rfl (by kernel_rfl) (by decide) (fun K hK => ?_)
        refine goes_ Try.func17 (by kernel_rfl) rfl #[.agg #[.slice Ao47 t246.length co47, .slice Ao48 t249.length co48], .agg #[.slice Ao49 t252.length co49, .slice Ao50 t255.length co50, .int .i64 t258, .int .i64 t259]] (by rfl) rfl rfl (by (try simp only [List.map_toArray, List.map_cons, List.map_nil]); first | done | rfl | (simp only [List.length_drop, List.length_take]; rfl)) ?_
        with_reducible refine (spec_Look.calls k _ _ t246 _ _ t249 _ _ t252 _ _ t255 t258 t259 t260 t263 _ ?side1 ?side2 ?side3 ?side4 ?side5 ?side6 ?side7 ?side8 A21.out).mono ?_
        (case side1 => exact (Cu ((Kd.R_reads' HO248.out).2.2)))
        (case side2 => exact (Kd.R_reads' HO248.out).2.1)
        (case side3 => exact (Cu ((Kd.R_reads' HO251.out).2.2)))
        (case side4 => exact (Kd.R_reads' HO251.out).2.1)
        (case side5 => exact (Cu ((Kd.R_reads' HO254.out).2.2)))
        (case side6 => exact (Kd.R_reads' HO254.out).2.1)
        (case side7 => exact (Cu ((Kd.R_reads' HO257.out).2.2)))
        (case side8 => exact (Kd.R_reads' HO257.out).2.1)
        rintro e w51 ⟨v261, v264, rfl, ho0, ho1, hb⟩
        refine ⟨_, rfl, ?_⟩
        have HO262 := Ω5 (Kd.R_lower (Kd.R_new' (Kd.R_new' (Kd.R_new' (Kd.R_new' ho0 (Kd.R_lt (Ru HO248.out))) (Kd.R_lt (Ru HO251.out))) (Kd.R_lt (Ru HO254.out))) (Kd.R_lt (Ru HO257.out))) (below_size (HBu HB.out)))
        have HO265 := Ω5 (Kd.R_lower (Kd.R_new' (Kd.R_new' (Kd.R_new' (Kd.R_new' ho1 (Kd.R_lt (Ru HO248.out))) (Kd.R_lt (Ru HO251.out))) (Kd.R_lt (Ru HO254.out))) (Kd.R_lt (Ru HO257.out))) (below_size (HBu HB.out)))
        replace HO248 := Ω5 (Rt2 HO248.out hb ho0 ho1)
        replace HO251 := Ω5 (Rt2 HO251.out hb ho0 ho1)
        replace HO254 := Ω5 (Rt2 HO254.out hb ho0 ho1)
        replace HO257 := Ω5 (Rt2 HO257.out hb ho0 ho1)
        replace BK242 := Ω5 (Bb BK242.out hb)
        replace BK243 := Ω5 (Bb BK243.out hb)
        replace BK266 := Ω5 (Bb BK266.out hb)
        replace HB := Ω5 (below_step (HBu HB.out) hb)
        (try clear hb)
        (try clear hb2)
        (try clear hk)
        (try clear hi)
        (try clear ho0)
        (try clear ho1)
        refine hK.out _ _ ⟨(ΩJ BK242.out 0).trans rfl, (ΩJ BK242.out 1).trans rfl, (ΩJ BK243.out 0).trans rfl, (ΩJ BK243.out 1).trans rfl, (ΩJ BK243.out 2).trans rfl, (ΩJ BK243.out 3).trans rfl⟩ (fun hHeld => ?_)
        clear hK K
        refine norm_ (a' := ?_) ?_ ?_
        rotate_left
        ·show Act.put _ (some 28) _ = _
         simp only [Act.put, List.setIfInBounds_toArray, List.set_cons_zero, List.set_cons_succ, i64_w, i32_w]
         rfl
        exact norm_ (by simp only [putAll, Act.put, List.setIfInBounds_toArray, List.set_cons_zero, List.set_cons_succ]) (hCont (.slice Ao47 t246.length co47, .slice Ao48 t249.length co48, .slice Ao49 t252.length co49, .slice Ao50 t255.length co50, v261, v264, gb266) _ ⟨hHeld, (Ru (ΩE HO248.out (fun _ hk => ⟨hk.1.1.1.1, ⟨hk.1.1.1.2, ⟨hk.1.1.2, ⟨hk.1.2, hk.2⟩⟩⟩⟩))), (Ru (ΩE HO251.out (fun _ hk => ⟨hk.1.1.1.1, ⟨hk.1.1.1.2, ⟨hk.1.1.2, ⟨hk.1.2, hk.2⟩⟩⟩⟩))), (Ru (ΩE HO254.out (fun _ hk => ⟨hk.1.1.1.2, ⟨hk.1.1.2, ⟨hk.1.1.1.1, ⟨hk.1.2, hk.2⟩⟩⟩⟩))), (Ru (ΩE HO257.out (fun _ hk => ⟨hk.1.1.1.2, ⟨hk.1.1.2, ⟨hk.1.1.1.1, ⟨hk.1.2, hk.2⟩⟩⟩⟩))), (Ru (ΩE HO262.out (fun _ hk => ⟨hk.1.1.1.2, ⟨hk.1.1.2, ⟨hk.1.2, ⟨hk.2, hk.1.1.1.1⟩⟩⟩⟩))), (Ru (ΩE HO265.out (fun _ hk => ⟨hk.1.1.1.2, ⟨hk.1.1.2, ⟨hk.1.2, ⟨hk.2, hk.1.1.1.1⟩⟩⟩⟩))), (Bu BK242.out), (Bu BK243.out), (Bu BK266.out), GW266.out, GE266.out, NB242_266.out, NB266_242.out, NB243_266.out, NB266_243.out, (HBu HB.out)⟩)
      rintro ⟨v247, v250, v253, v256, v261, v264, gb266⟩ w52 ⟨hS_, h0_, h1_, h2_, h3_, h4_, h5_, h6_, h7_, h8_, h9_, h10_, h11_, h12_, h13_, h14_, h15_⟩
      have n0_ : Aside0 (Kd.R (Kd.int .i64) 3 w52 w.heap.size (fun k_ => some k_ ≠ (v250 : Value).ownBlock ∧ some k_ ≠ (v253 : Value).ownBlock ∧ some k_ ≠ (v256 : Value).ownBlock ∧ some k_ ≠ (v261 : Value).ownBlock ∧ some k_ ≠ (v264 : Value).ownBlock) v247 t246) := ⟨h0_⟩
      have n1_ : Aside0 (Kd.R (Kd.int .i64) 3 w52 w.heap.size (fun k_ => some k_ ≠ (v247 : Value).ownBlock ∧ some k_ ≠ (v253 : Value).ownBlock ∧ some k_ ≠ (v256 : Value).ownBlock ∧ some k_ ≠ (v261 : Value).ownBlock ∧ some k_ ≠ (v264 : Value).ownBlock) v250 t249) := ⟨h1_⟩
      have n2_ : Aside0 (Kd.R (Kd.int .i64) 3 w52 w.heap.size (fun k_ => some k_ ≠ (v247 : Value).ownBlock ∧ some k_ ≠ (v250 : Value).ownBlock ∧ some k_ ≠ (v256 : Value).ownBlock ∧ some k_ ≠ (v261 : Value).ownBlock ∧ some k_ ≠ (v264 : Value).ownBlock) v253 t252) := ⟨h2_⟩
      have n3_ : Aside0 (Kd.R (Kd.int .i64) 3 w52 w.heap.size (fun k_ => some k_ ≠ (v247 : Value).ownBlock ∧ some k_ ≠ (v250 : Value).ownBlock ∧ some k_ ≠ (v253 : Value).ownBlock ∧ some k_ ≠ (v261 : Value).ownBlock ∧ some k_ ≠ (v264 : Value).ownBlock) v256 t255) := ⟨h3_⟩
      have n4_ : Aside0 (Kd.R (Kd.int .i64) 3 w52 w.heap.size (fun k_ => some k_ ≠ (v247 : Value).ownBlock ∧ some k_ ≠ (v250 : Value).ownBlock ∧ some k_ ≠ (v253 : Value).ownBlock ∧ some k_ ≠ (v256 : Value).ownBlock ∧ some k_ ≠ (v264 : Value).ownBlock) v261 t260) := ⟨h4_⟩
      have n5_ : Aside0 (Kd.R (Kd.int .i64) 3 w52 w.heap.size (fun k_ => some k_ ≠ (v247 : Value).ownBlock ∧ some k_ ≠ (v250 : Value).ownBlock ∧ some k_ ≠ (v253 : Value).ownBlock ∧ some k_ ≠ (v256 : Value).ownBlock ∧ some k_ ≠ (v261 : Value).ownBlock) v264 t263) := ⟨h5_⟩
      have n6_ : Aside0 (w52.heap[gb242]? = some (.cells #[.slice A0_0 l0_0.length c0_0, .slice A0_1 l0_1.length c0_1] 24 (0, 0))) := ⟨h6_⟩
      have n7_ : Aside0 (w52.heap[gb243]? = some (.cells #[.slice A1_0 l1_0.length c1_0, .slice A1_1 l1_1.length c1_1, .int .i64 a1_2, .int .i64 a1_3] 33 (0, 0))) := ⟨h7_⟩
      have n8_ : Aside0 (w52.heap[gb266]? = some (.cells #[.slice none 0 0, .slice none 0 0] 26 (0, 0))) := ⟨h8_⟩
      have n9_ : Aside0 (w.heap.size ≤ gb266) := ⟨h9_⟩
      have n10_ : Aside0 (w.heap.size ≤ gb266) := ⟨h10_⟩
      have n11_ : Aside0 (gb242 ≠ gb266) := ⟨h11_⟩
      have n12_ : Aside0 (gb266 ≠ gb242) := ⟨h12_⟩
      have n13_ : Aside0 (gb243 ≠ gb266) := ⟨h13_⟩
      have n14_ : Aside0 (gb266 ≠ gb243) := ⟨h14_⟩
      have n15_ : Aside0 (Below w.heap.size w w52) := ⟨h15_⟩
      clear BK242
      clear BK243
      clear HB
      clear h0_ h1_ h2_ h3_ h4_ h5_ h6_ h7_ h8_ h9_ h10_ h11_ h12_ h13_ h14_ h15_
      have HO248 := n0_
      have HO251 := n1_
      have HO254 := n2_
      have HO257 := n3_
      have HO262 := n4_
      have HO265 := n5_
      have BK242 := n6_
      have BK243 := n7_
      have BK266 := n8_
      have GW266 := n9_
      have GE266 := n10_
      have NB242_266 := n11_
      have NB266_242 := n12_
      have NB243_266 := n13_
      have NB266_243 := n14_
      have HB := n15_
      clear n0_ n1_ n2_ n3_ n4_ n5_ n6_ n7_ n8_ n9_ n10_ n11_ n12_ n13_ n14_ n15_
      have hHeld : w52.cell? ⟨gb242, 0, none⟩ = some (.slice A0_0 l0_0.length c0_0) ∧ w52.cell? ⟨gb242, 1, none⟩ = some (.slice A0_1 l0_1.length c0_1) ∧ w52.cell? ⟨gb243, 0, none⟩ = some (.slice A1_0 l1_0.length c1_0) ∧ w52.cell? ⟨gb243, 1, none⟩ = some (.slice A1_1 l1_1.length c1_1) ∧ w52.cell? ⟨gb243, 2, none⟩ = some (.int .i64 a1_2) ∧ w52.cell? ⟨gb243, 3, none⟩ = some (.int .i64 a1_3) := hS_
      obtain ⟨Ao53, co53, eo53⟩ := Kd.R_slice HO262.out
      (first | subst eo53 | (injection eo53 with f1_ f2_ f3_; have f4_ := f1_.symm; have f5_ := f3_.symm; clear f1_ f2_ f3_; subst f4_; subst f5_))
      obtain ⟨Ao55, co55, eo55⟩ := Kd.R_slice HO265.out
      (first | subst eo55 | (injection eo55 with f1_ f2_ f3_; have f4_ := f1_.symm; have f5_ := f3_.symm; clear f1_ f2_ f3_; subst f4_; subst f5_))
      refine norm_ (a' := ?_) ?_ ?_
      rotate_left
      ·simp only [putAll, Act.put, List.setIfInBounds_toArray, List.set_cons_zero, List.set_cons_succ]
       rfl
      refine one_ (i := 6) (N := none) #[true, true, true, true, true, true, true] rfl rfl (by kernel_rfl) (by decide) (fun K hK => ?_)
      have hs54 : w52.cell? ⟨gb266, 0, none⟩ = some (.slice none 0 0) := (ΩJ BK266.out 0).trans rfl
      have hfs54 := ΩF BK266.out 0
      have hns54_0 := NB242_266.out
      have hns54_1 := NB243_266.out
      have hms54_0 := NB266_242.out
      have hms54_1 := NB266_243.out
      have hs56 : w52.cell? ⟨gb266, 1, none⟩ = some (.slice none 0 0) := (ΩJ BK266.out 1).trans rfl
      have hfs56 := ΩF BK266.out 1
      have hns56_0 := NB242_266.out
      have hns56_1 := NB243_266.out
      have hms56_0 := NB266_242.out
      have hms56_1 := NB266_243.out
      refine skip_ (w1 := ?_) (by rfl) rfl ?_ ?_
      rotate_left
      ·go_simp
       rfl
      refine hK.out _ _ ⟨((cell_far (p := ⟨gb266, _, none⟩) NB242_266.out _).trans (((cell_far (p := ⟨gb266, _, none⟩) NB242_266.out _).trans (hHeld.1)))), ((cell_far (p := ⟨gb266, _, none⟩) NB242_266.out _).trans (((cell_far (p := ⟨gb266, _, none⟩) NB242_266.out _).trans (hHeld.2.1)))), ((cell_far (p := ⟨gb266, _, none⟩) NB243_266.out _).trans (((cell_far (p := ⟨gb266, _, none⟩) NB243_266.out _).trans (hHeld.2.2.1)))), ((cell_far (p := ⟨gb266, _, none⟩) NB243_266.out _).trans (((cell_far (p := ⟨gb266, _, none⟩) NB243_266.out _).trans (hHeld.2.2.2.1)))), ((cell_far (p := ⟨gb266, _, none⟩) NB243_266.out _).trans (((cell_far (p := ⟨gb266, _, none⟩) NB243_266.out _).trans (hHeld.2.2.2.2.1)))), ((cell_far (p := ⟨gb266, _, none⟩) NB243_266.out _).trans (((cell_far (p := ⟨gb266, _, none⟩) NB243_266.out _).trans (hHeld.2.2.2.2.2))))⟩ (fun hHeld => ?_)
      clear hK K
      refine done_ (by kernel_rfl) ?_
      have hnb57 := NB242_266.out
      have hnc57 := NB266_242.out
      have hcz58_0 : w52.cell? ⟨gb242, 0, none⟩ = some (.slice A0_0 l0_0.length c0_0) := (ΩJ BK242.out 0).trans rfl
      have hcz58_1 : w52.cell? ⟨gb242, 1, none⟩ = some (.slice A0_1 l0_1.length c0_1) := (ΩJ BK242.out 1).trans rfl
      have hfz58_0 := ΩF BK242.out 0
      have hfz58_1 := ΩF BK242.out 1
      try go_wp2_with (first | ((with_reducible refine gate_callee (f := 11) rfl ?_); refine goesL_ (some 30) rfl rfl Try.func11 (by kernel_rfl) rfl #[.agg #[.slice A0_0 l0_0.length c0_0, .slice A0_1 l0_1.length c0_1]] rfl (by (try simp only [List.map_toArray, List.map_cons, List.map_nil]); first | done | rfl | (simp only [List.length_drop, List.length_take]; rfl)) ?_; (with_reducible refine (laws_toTensor.calls k _ _ l0_0 _ _ l0_1 t267 t270 _ ?side1 ?side2 ?side3 ?side4 A22.out).mono ?_); (case side1 => exact Kd.C_below HR0_0.out (HBu HB.out)); (case side2 => exact HC0_0.out); (case side3 => exact Kd.C_below HR0_1.out (HBu HB.out)); (case side4 => exact HC0_1.out); rintro e w59 ⟨v268, v271, rfl, ho0, ho1, hb⟩; refine ⟨_, rfl, ?_⟩; have HO269 := Ω5 (Kd.R_lower (Kd.R_new' (Kd.R_new' (Kd.R_new' (Kd.R_new' (Kd.R_new' (Kd.R_new' ho0 (Kd.R_lt (Ru (Rf2 HO248.out BK266.out (by decide) (.slice Ao53 t260.length co53) (.slice Ao55 t263.length co55))))) (Kd.R_lt (Ru (Rf2 HO251.out BK266.out (by decide) (.slice Ao53 t260.length co53) (.slice Ao55 t263.length co55))))) (Kd.R_lt (Ru (Rf2 HO254.out BK266.out (by decide) (.slice Ao53 t260.length co53) (.slice Ao55 t263.length co55))))) (Kd.R_lt (Ru (Rf2 HO257.out BK266.out (by decide) (.slice Ao53 t260.length co53) (.slice Ao55 t263.length co55))))) (Kd.R_lt (Ru (Rf2 HO262.out BK266.out (by decide) (.slice Ao53 t260.length co53) (.slice Ao55 t263.length co55))))) (Kd.R_lt (Ru (Rf2 HO265.out BK266.out (by decide) (.slice Ao53 t260.length co53) (.slice Ao55 t263.length co55))))) (below_size (HBu HB.out))); have HO272 := Ω5 (Kd.R_lower (Kd.R_new' (Kd.R_new' (Kd.R_new' (Kd.R_new' (Kd.R_new' (Kd.R_new' ho1 (Kd.R_lt (Ru (Rf2 HO248.out BK266.out (by decide) (.slice Ao53 t260.length co53) (.slice Ao55 t263.length co55))))) (Kd.R_lt (Ru (Rf2 HO251.out BK266.out (by decide) (.slice Ao53 t260.length co53) (.slice Ao55 t263.length co55))))) (Kd.R_lt (Ru (Rf2 HO254.out BK266.out (by decide) (.slice Ao53 t260.length co53) (.slice Ao55 t263.length co55))))) (Kd.R_lt (Ru (Rf2 HO257.out BK266.out (by decide) (.slice Ao53 t260.length co53) (.slice Ao55 t263.length co55))))) (Kd.R_lt (Ru (Rf2 HO262.out BK266.out (by decide) (.slice Ao53 t260.length co53) (.slice Ao55 t263.length co55))))) (Kd.R_lt (Ru (Rf2 HO265.out BK266.out (by decide) (.slice Ao53 t260.length co53) (.slice Ao55 t263.length co55))))) (below_size (HBu HB.out))); replace HO248 := Ω5 (ΩE (Kd.R_told (Kd.R_told (Kd.R_old (Ru (Rf2 HO248.out BK266.out (by decide) (.slice Ao53 t260.length co53) (.slice Ao55 t263.length co55))) hb) (Kd.R_base ho0)) (Kd.R_base ho1)) (fun _ h_ => h_.1)); replace HO251 := Ω5 (ΩE (Kd.R_told (Kd.R_told (Kd.R_old (Ru (Rf2 HO251.out BK266.out (by decide) (.slice Ao53 t260.length co53) (.slice Ao55 t263.length co55))) hb) (Kd.R_base ho0)) (Kd.R_base ho1)) (fun _ h_ => h_.1)); replace HO254 := Ω5 (ΩE (Kd.R_told (Kd.R_told (Kd.R_old (Ru (Rf2 HO254.out BK266.out (by decide) (.slice Ao53 t260.length co53) (.slice Ao55 t263.length co55))) hb) (Kd.R_base ho0)) (Kd.R_base ho1)) (fun _ h_ => h_.1)); replace HO257 := Ω5 (ΩE (Kd.R_told (Kd.R_told (Kd.R_old (Ru (Rf2 HO257.out BK266.out (by decide) (.slice Ao53 t260.length co53) (.slice Ao55 t263.length co55))) hb) (Kd.R_base ho0)) (Kd.R_base ho1)) (fun _ h_ => h_.1)); replace HO262 := Ω5 (ΩE (Kd.R_told (Kd.R_told (Kd.R_old (Ru (Rf2 HO262.out BK266.out (by decide) (.slice Ao53 t260.length co53) (.slice Ao55 t263.length co55))) hb) (Kd.R_base ho0)) (Kd.R_base ho1)) (fun _ h_ => h_.1)); replace HO265 := Ω5 (ΩE (Kd.R_told (Kd.R_told (Kd.R_old (Ru (Rf2 HO265.out BK266.out (by decide) (.slice Ao53 t260.length co53) (.slice Ao55 t263.length co55))) hb) (Kd.R_base ho0)) (Kd.R_base ho1)) (fun _ h_ => h_.1)); replace BK242 := Ω5 (blk_below (g := gb242) (o := .cells #[.slice A0_0 l0_0.length c0_0, .slice A0_1 l0_1.length c0_1] 24 (0, 0)) (by (with_reducible repeat (first | refine ΩA ?_ _ | refine ΩC ?_ | refine ΩB ?_ _)); refine blk_far ?_ NB242_266.out _; (with_reducible repeat (first | refine ΩA ?_ _ | refine ΩC ?_ | refine ΩB ?_ _)); refine blk_far ?_ NB242_266.out _; (with_reducible repeat (first | refine ΩA ?_ _ | refine ΩC ?_ | refine ΩB ?_ _)); exact BK242.out) hb); replace BK243 := Ω5 (blk_below (g := gb243) (o := .cells #[.slice A1_0 l1_0.length c1_0, .slice A1_1 l1_1.length c1_1, .int .i64 a1_2, .int .i64 a1_3] 33 (0, 0)) (by (with_reducible repeat (first | refine ΩA ?_ _ | refine ΩC ?_ | refine ΩB ?_ _)); refine blk_far ?_ NB243_266.out _; (with_reducible repeat (first | refine ΩA ?_ _ | refine ΩC ?_ | refine ΩB ?_ _)); refine blk_far ?_ NB243_266.out _; (with_reducible repeat (first | refine ΩA ?_ _ | refine ΩC ?_ | refine ΩB ?_ _)); exact BK243.out) hb); replace BK266 := Ω5 (blk_below (g := gb266) (o := .cells #[.slice Ao53 t260.length co53, .slice Ao55 t263.length co55] 26 (0, 0)) (by (with_reducible repeat (first | refine ΩA ?_ _ | refine ΩC ?_ | refine ΩB ?_ _)); refine blk_put (cs := #[.slice Ao53 t260.length co53, .slice none 0 0]) ?_ 1 _ rfl; (with_reducible repeat (first | refine ΩA ?_ _ | refine ΩC ?_ | refine ΩB ?_ _)); refine blk_put (cs := #[.slice none 0 0, .slice none 0 0]) ?_ 0 _ rfl; (with_reducible repeat (first | refine ΩA ?_ _ | refine ΩC ?_ | refine ΩB ?_ _)); exact BK266.out) hb); replace HB := Ω5 (below_step (HBu HB.out) hb); (try clear hb); (try clear hb2); (try clear hk); (try clear hi); (try clear ho0); (try clear ho1)) | ((with_reducible refine gate_dst (N := 7) rfl ?_); refine box_event ?hg (N := 7) ?hd (cs := #[.slice none 0 0, .slice none 0 0]) (t := 26) ?hr ?_; (case hd => rfl); (case hg => rfl); (case hr => first | (go_simp; done) | (go_simp; rfl)); intro gb273 hg w60 hbox hb; have BK273 := Ω5 (hbox); have GW273 := Ω5 ((by rw [hg]; exact (below_size (HBu HB.out)) : w.heap.size ≤ gb273)); have GE273 := Ω5 ((by rw [hg]; exact (below_size (HBu HB.out)) : w.heap.size ≤ gb273)); have NB242_273 := Ω5 ((by rw [hg]; exact Nat.ne_of_lt (blk_lt (g := gb242) (o := .cells #[.slice A0_0 l0_0.length c0_0, .slice A0_1 l0_1.length c0_1] 24 (0, 0)) (Bu BK242.out)) : gb242 ≠ gb273)); have NB273_242 := Ω5 ((by rw [hg]; exact Nat.ne_of_gt (blk_lt (g := gb242) (o := .cells #[.slice A0_0 l0_0.length c0_0, .slice A0_1 l0_1.length c0_1] 24 (0, 0)) (Bu BK242.out)) : gb273 ≠ gb242)); have NB243_273 := Ω5 ((by rw [hg]; exact Nat.ne_of_lt (blk_lt (g := gb243) (o := .cells #[.slice A1_0 l1_0.length c1_0, .slice A1_1 l1_1.length c1_1, .int .i64 a1_2, .int .i64 a1_3] 33 (0, 0)) (Bu BK243.out)) : gb243 ≠ gb273)); have NB273_243 := Ω5 ((by rw [hg]; exact Nat.ne_of_gt (blk_lt (g := gb243) (o := .cells #[.slice A1_0 l1_0.length c1_0, .slice A1_1 l1_1.length c1_1, .int .i64 a1_2, .int .i64 a1_3] 33 (0, 0)) (Bu BK243.out)) : gb273 ≠ gb243)); have NB266_273 := Ω5 ((by rw [hg]; exact Nat.ne_of_lt (blk_lt (g := gb266) (o := .cells #[.slice Ao53 t260.length co53, .slice Ao55 t263.length co55] 26 (0, 0)) (Bu BK266.out)) : gb266 ≠ gb273)); have NB273_266 := Ω5 ((by rw [hg]; exact Nat.ne_of_gt (blk_lt (g := gb266) (o := .cells #[.slice Ao53 t260.length co53, .slice Ao55 t263.length co55] 26 (0, 0)) (Bu BK266.out)) : gb273 ≠ gb266)); replace HO248 := Ω5 (Rb HO248.out hb); replace HO251 := Ω5 (Rb HO251.out hb); replace HO254 := Ω5 (Rb HO254.out hb); replace HO257 := Ω5 (Rb HO257.out hb); replace HO262 := Ω5 (Rb HO262.out hb); replace HO265 := Ω5 (Rb HO265.out hb); replace HO269 := Ω5 (Rb HO269.out hb); replace HO272 := Ω5 (Rb HO272.out hb); replace BK242 := Ω5 (Bb BK242.out hb); replace BK243 := Ω5 (Bb BK243.out hb); replace BK266 := Ω5 (Bb BK266.out hb); replace HB := Ω5 (below_step (HBu HB.out) hb); clear hb hbox hg; obtain ⟨Ao61, co61, eo61⟩ := Kd.R_slice HO269.out; subst eo61; have hnb62 := NB273_242.out; have hnc62 := NB242_273.out; have hnb63 := NB273_243.out; have hnc63 := NB243_273.out; have hnb64 := NB273_266.out; have hnc64 := NB266_273.out; have hcz65_0 : w60.cell? ⟨gb273, 0, none⟩ = some (.slice none 0 0) := (ΩJ BK273.out 0).trans rfl; have hcz65_1 : w60.cell? ⟨gb273, 1, none⟩ = some (.slice none 0 0) := (ΩJ BK273.out 1).trans rfl; have hfz65_0 := ΩF BK273.out 0; have hfz65_1 := ΩF BK273.out 1; obtain ⟨Ao66, co66, eo66⟩ := Kd.R_slice HO272.out; subst eo66; have hnb67 := NB243_266.out; have hnc67 := NB266_243.out; have hcz68_0 : w60.cell? ⟨gb243, 0, none⟩ = some (.slice A1_0 l1_0.length c1_0) := (ΩJ BK243.out 0).trans rfl; have hcz68_1 : w60.cell? ⟨gb243, 1, none⟩ = some (.slice A1_1 l1_1.length c1_1) := (ΩJ BK243.out 1).trans rfl; have hcz68_2 : w60.cell? ⟨gb243, 2, none⟩ = some (.int .i64 a1_2) := (ΩJ BK243.out 2).trans rfl; have hcz68_3 : w60.cell? ⟨gb243, 3, none⟩ = some (.int .i64 a1_3) := (ΩJ BK243.out 3).trans rfl; have hfz68_0 := ΩF BK243.out 0; have hfz68_1 := ΩF BK243.out 1; have hfz68_2 := ΩF BK243.out 2; have hfz68_3 := ΩF BK243.out 3) | ((with_reducible refine gate_callee (f := 18) rfl ?_); refine goesL_ (some 32) rfl rfl Try.func18 (by kernel_rfl) rfl #[.agg #[.slice A1_0 l1_0.length c1_0, .slice A1_1 l1_1.length c1_1, .int .i64 a1_2, .int .i64 a1_3]] rfl (by (try simp only [List.map_toArray, List.map_cons, List.map_nil]); first | done | rfl | (simp only [List.length_drop, List.length_take]; rfl)) ?_; (with_reducible refine (laws_toView.calls k _ _ l1_0 _ _ l1_1 a1_2 a1_3 t274 t277 t280 t281 _ ?side1 ?side2 ?side3 ?side4 A23.out).mono ?_); (case side1 => exact Kd.C_below HR1_0.out (HBu HB.out)); (case side2 => exact HC1_0.out); (case side3 => exact Kd.C_below HR1_1.out (HBu HB.out)); (case side4 => exact HC1_1.out); rintro e w69 ⟨v275, v278, rfl, ho0, ho1, hb⟩; refine ⟨_, rfl, ?_⟩; have HO276 := Ω5 (Kd.R_lower (Kd.R_new' (Kd.R_new' (Kd.R_new' (Kd.R_new' (Kd.R_new' (Kd.R_new' (Kd.R_new' (Kd.R_new' ho0 (Kd.R_lt (Ru (Rf2 HO248.out BK273.out (by decide) (.slice Ao61 t267.length co61) (.slice Ao66 t270.length co66))))) (Kd.R_lt (Ru (Rf2 HO251.out BK273.out (by decide) (.slice Ao61 t267.length co61) (.slice Ao66 t270.length co66))))) (Kd.R_lt (Ru (Rf2 HO254.out BK273.out (by decide) (.slice Ao61 t267.length co61) (.slice Ao66 t270.length co66))))) (Kd.R_lt (Ru (Rf2 HO257.out BK273.out (by decide) (.slice Ao61 t267.length co61) (.slice Ao66 t270.length co66))))) (Kd.R_lt (Ru (Rf2 HO262.out BK273.out (by decide) (.slice Ao61 t267.length co61) (.slice Ao66 t270.length co66))))) (Kd.R_lt (Ru (Rf2 HO265.out BK273.out (by decide) (.slice Ao61 t267.length co61) (.slice Ao66 t270.length co66))))) (Kd.R_lt (Ru (Rf2 HO269.out BK273.out (by decide) (.slice Ao61 t267.length co61) (.slice Ao66 t270.length co66))))) (Kd.R_lt (Ru (Rf2 HO272.out BK273.out (by decide) (.slice Ao61 t267.length co61) (.slice Ao66 t270.length co66))))) (below_size (HBu HB.out))); have HO279 := Ω5 (Kd.R_lower (Kd.R_new' (Kd.R_new' (Kd.R_new' (Kd.R_new' (Kd.R_new' (Kd.R_new' (Kd.R_new' (Kd.R_new' ho1 (Kd.R_lt (Ru (Rf2 HO248.out BK273.out (by decide) (.slice Ao61 t267.length co61) (.slice Ao66 t270.length co66))))) (Kd.R_lt (Ru (Rf2 HO251.out BK273.out (by decide) (.slice Ao61 t267.length co61) (.slice Ao66 t270.length co66))))) (Kd.R_lt (Ru (Rf2 HO254.out BK273.out (by decide) (.slice Ao61 t267.length co61) (.slice Ao66 t270.length co66))))) (Kd.R_lt (Ru (Rf2 HO257.out BK273.out (by decide) (.slice Ao61 t267.length co61) (.slice Ao66 t270.length co66))))) (Kd.R_lt (Ru (Rf2 HO262.out BK273.out (by decide) (.slice Ao61 t267.length co61) (.slice Ao66 t270.length co66))))) (Kd.R_lt (Ru (Rf2 HO265.out BK273.out (by decide) (.slice Ao61 t267.length co61) (.slice Ao66 t270.length co66))))) (Kd.R_lt (Ru (Rf2 HO269.out BK273.out (by decide) (.slice Ao61 t267.length co61) (.slice Ao66 t270.length co66))))) (Kd.R_lt (Ru (Rf2 HO272.out BK273.out (by decide) (.slice Ao61 t267.length co61) (.slice Ao66 t270.length co66))))) (below_size (HBu HB.out))); replace HO248 := Ω5 (ΩE (Kd.R_told (Kd.R_told (Kd.R_old (Ru (Rf2 HO248.out BK273.out (by decide) (.slice Ao61 t267.length co61) (.slice Ao66 t270.length co66))) hb) (Kd.R_base ho0)) (Kd.R_base ho1)) (fun _ h_ => h_.1)); replace HO251 := Ω5 (ΩE (Kd.R_told (Kd.R_told (Kd.R_old (Ru (Rf2 HO251.out BK273.out (by decide) (.slice Ao61 t267.length co61) (.slice Ao66 t270.length co66))) hb) (Kd.R_base ho0)) (Kd.R_base ho1)) (fun _ h_ => h_.1)); replace HO254 := Ω5 (ΩE (Kd.R_told (Kd.R_told (Kd.R_old (Ru (Rf2 HO254.out BK273.out (by decide) (.slice Ao61 t267.length co61) (.slice Ao66 t270.length co66))) hb) (Kd.R_base ho0)) (Kd.R_base ho1)) (fun _ h_ => h_.1)); replace HO257 := Ω5 (ΩE (Kd.R_told (Kd.R_told (Kd.R_old (Ru (Rf2 HO257.out BK273.out (by decide) (.slice Ao61 t267.length co61) (.slice Ao66 t270.length co66))) hb) (Kd.R_base ho0)) (Kd.R_base ho1)) (fun _ h_ => h_.1)); replace HO262 := Ω5 (ΩE (Kd.R_told (Kd.R_told (Kd.R_old (Ru (Rf2 HO262.out BK273.out (by decide) (.slice Ao61 t267.length co61) (.slice Ao66 t270.length co66))) hb) (Kd.R_base ho0)) (Kd.R_base ho1)) (fun _ h_ => h_.1)); replace HO265 := Ω5 (ΩE (Kd.R_told (Kd.R_told (Kd.R_old (Ru (Rf2 HO265.out BK273.out (by decide) (.slice Ao61 t267.length co61) (.slice Ao66 t270.length co66))) hb) (Kd.R_base ho0)) (Kd.R_base ho1)) (fun _ h_ => h_.1)); replace HO269 := Ω5 (ΩE (Kd.R_told (Kd.R_told (Kd.R_old (Ru (Rf2 HO269.out BK273.out (by decide) (.slice Ao61 t267.length co61) (.slice Ao66 t270.length co66))) hb) (Kd.R_base ho0)) (Kd.R_base ho1)) (fun _ h_ => h_.1)); replace HO272 := Ω5 (ΩE (Kd.R_told (Kd.R_told (Kd.R_old (Ru (Rf2 HO272.out BK273.out (by decide) (.slice Ao61 t267.length co61) (.slice Ao66 t270.length co66))) hb) (Kd.R_base ho0)) (Kd.R_base ho1)) (fun _ h_ => h_.1)); replace BK242 := Ω5 (blk_below (g := gb242) (o := .cells #[.slice A0_0 l0_0.length c0_0, .slice A0_1 l0_1.length c0_1] 24 (0, 0)) (by (with_reducible repeat (first | refine ΩA ?_ _ | refine ΩC ?_ | refine ΩB ?_ _)); refine blk_far ?_ NB242_273.out _; (with_reducible repeat (first | refine ΩA ?_ _ | refine ΩC ?_ | refine ΩB ?_ _)); refine blk_far ?_ NB242_273.out _; (with_reducible repeat (first | refine ΩA ?_ _ | refine ΩC ?_ | refine ΩB ?_ _)); exact BK242.out) hb); replace BK243 := Ω5 (blk_below (g := gb243) (o := .cells #[.slice A1_0 l1_0.length c1_0, .slice A1_1 l1_1.length c1_1, .int .i64 a1_2, .int .i64 a1_3] 33 (0, 0)) (by (with_reducible repeat (first | refine ΩA ?_ _ | refine ΩC ?_ | refine ΩB ?_ _)); refine blk_far ?_ NB243_273.out _; (with_reducible repeat (first | refine ΩA ?_ _ | refine ΩC ?_ | refine ΩB ?_ _)); refine blk_far ?_ NB243_273.out _; (with_reducible repeat (first | refine ΩA ?_ _ | refine ΩC ?_ | refine ΩB ?_ _)); exact BK243.out) hb); replace BK266 := Ω5 (blk_below (g := gb266) (o := .cells #[.slice Ao53 t260.length co53, .slice Ao55 t263.length co55] 26 (0, 0)) (by (with_reducible repeat (first | refine ΩA ?_ _ | refine ΩC ?_ | refine ΩB ?_ _)); refine blk_far ?_ NB266_273.out _; (with_reducible repeat (first | refine ΩA ?_ _ | refine ΩC ?_ | refine ΩB ?_ _)); refine blk_far ?_ NB266_273.out _; (with_reducible repeat (first | refine ΩA ?_ _ | refine ΩC ?_ | refine ΩB ?_ _)); exact BK266.out) hb); replace BK273 := Ω5 (blk_below (g := gb273) (o := .cells #[.slice Ao61 t267.length co61, .slice Ao66 t270.length co66] 26 (0, 0)) (by (with_reducible repeat (first | refine ΩA ?_ _ | refine ΩC ?_ | refine ΩB ?_ _)); refine blk_put (cs := #[.slice Ao61 t267.length co61, .slice none 0 0]) ?_ 1 _ rfl; (with_reducible repeat (first | refine ΩA ?_ _ | refine ΩC ?_ | refine ΩB ?_ _)); refine blk_put (cs := #[.slice none 0 0, .slice none 0 0]) ?_ 0 _ rfl; (with_reducible repeat (first | refine ΩA ?_ _ | refine ΩC ?_ | refine ΩB ?_ _)); exact BK273.out) hb); replace HB := Ω5 (below_step (HBu HB.out) hb); (try clear hb); (try clear hb2); (try clear hk); (try clear hi); (try clear ho0); (try clear ho1)) | ((with_reducible refine gate_dst (N := 8) rfl ?_); refine box_event ?hg (N := 8) ?hd (cs := #[.slice none 0 0, .slice none 0 0, .int .i64 0, .int .i64 0]) (t := 36) ?hr ?_; (case hd => rfl); (case hg => rfl); (case hr => first | (go_simp; done) | (go_simp; rfl)); intro gb282 hg w70 hbox hb; have BK282 := Ω5 (hbox); have GW282 := Ω5 ((by rw [hg]; exact (below_size (HBu HB.out)) : w.heap.size ≤ gb282)); have GE282 := Ω5 ((by rw [hg]; exact (below_size (HBu HB.out)) : w.heap.size ≤ gb282)); have NB242_282 := Ω5 ((by rw [hg]; exact Nat.ne_of_lt (blk_lt (g := gb242) (o := .cells #[.slice A0_0 l0_0.length c0_0, .slice A0_1 l0_1.length c0_1] 24 (0, 0)) (Bu BK242.out)) : gb242 ≠ gb282)); have NB282_242 := Ω5 ((by rw [hg]; exact Nat.ne_of_gt (blk_lt (g := gb242) (o := .cells #[.slice A0_0 l0_0.length c0_0, .slice A0_1 l0_1.length c0_1] 24 (0, 0)) (Bu BK242.out)) : gb282 ≠ gb242)); have NB243_282 := Ω5 ((by rw [hg]; exact Nat.ne_of_lt (blk_lt (g := gb243) (o := .cells #[.slice A1_0 l1_0.length c1_0, .slice A1_1 l1_1.length c1_1, .int .i64 a1_2, .int .i64 a1_3] 33 (0, 0)) (Bu BK243.out)) : gb243 ≠ gb282)); have NB282_243 := Ω5 ((by rw [hg]; exact Nat.ne_of_gt (blk_lt (g := gb243) (o := .cells #[.slice A1_0 l1_0.length c1_0, .slice A1_1 l1_1.length c1_1, .int .i64 a1_2, .int .i64 a1_3] 33 (0, 0)) (Bu BK243.out)) : gb282 ≠ gb243)); have NB266_282 := Ω5 ((by rw [hg]; exact Nat.ne_of_lt (blk_lt (g := gb266) (o := .cells #[.slice Ao53 t260.length co53, .slice Ao55 t263.length co55] 26 (0, 0)) (Bu BK266.out)) : gb266 ≠ gb282)); have NB282_266 := Ω5 ((by rw [hg]; exact Nat.ne_of_gt (blk_lt (g := gb266) (o := .cells #[.slice Ao53 t260.length co53, .slice Ao55 t263.length co55] 26 (0, 0)) (Bu BK266.out)) : gb282 ≠ gb266)); have NB273_282 := Ω5 ((by rw [hg]; exact Nat.ne_of_lt (blk_lt (g := gb273) (o := .cells #[.slice Ao61 t267.length co61, .slice Ao66 t270.length co66] 26 (0, 0)) (Bu BK273.out)) : gb273 ≠ gb282)); have NB282_273 := Ω5 ((by rw [hg]; exact Nat.ne_of_gt (blk_lt (g := gb273) (o := .cells #[.slice Ao61 t267.length co61, .slice Ao66 t270.length co66] 26 (0, 0)) (Bu BK273.out)) : gb282 ≠ gb273)); replace HO248 := Ω5 (Rb HO248.out hb); replace HO251 := Ω5 (Rb HO251.out hb); replace HO254 := Ω5 (Rb HO254.out hb); replace HO257 := Ω5 (Rb HO257.out hb); replace HO262 := Ω5 (Rb HO262.out hb); replace HO265 := Ω5 (Rb HO265.out hb); replace HO269 := Ω5 (Rb HO269.out hb); replace HO272 := Ω5 (Rb HO272.out hb); replace HO276 := Ω5 (Rb HO276.out hb); replace HO279 := Ω5 (Rb HO279.out hb); replace BK242 := Ω5 (Bb BK242.out hb); replace BK243 := Ω5 (Bb BK243.out hb); replace BK266 := Ω5 (Bb BK266.out hb); replace BK273 := Ω5 (Bb BK273.out hb); replace HB := Ω5 (below_step (HBu HB.out) hb); clear hb hbox hg; obtain ⟨Ao71, co71, eo71⟩ := Kd.R_slice HO276.out; subst eo71; have hnb72 := NB282_242.out; have hnc72 := NB242_282.out; have hnb73 := NB282_243.out; have hnc73 := NB243_282.out; have hnb74 := NB282_266.out; have hnc74 := NB266_282.out; have hnb75 := NB282_273.out; have hnc75 := NB273_282.out; have hcz76_0 : w70.cell? ⟨gb282, 0, none⟩ = some (.slice none 0 0) := (ΩJ BK282.out 0).trans rfl; have hcz76_1 : w70.cell? ⟨gb282, 1, none⟩ = some (.slice none 0 0) := (ΩJ BK282.out 1).trans rfl; have hcz76_2 : w70.cell? ⟨gb282, 2, none⟩ = some (.int .i64 0) := (ΩJ BK282.out 2).trans rfl; have hcz76_3 : w70.cell? ⟨gb282, 3, none⟩ = some (.int .i64 0) := (ΩJ BK282.out 3).trans rfl; have hfz76_0 := ΩF BK282.out 0; have hfz76_1 := ΩF BK282.out 1; have hfz76_2 := ΩF BK282.out 2; have hfz76_3 := ΩF BK282.out 3; obtain ⟨Ao77, co77, eo77⟩ := Kd.R_slice HO279.out; subst eo77; have hcz78_0 : w70.cell? ⟨gb273, 0, none⟩ = some (.slice Ao61 t267.length co61) := (ΩJ BK273.out 0).trans rfl; have hcz78_1 : w70.cell? ⟨gb273, 1, none⟩ = some (.slice Ao66 t270.length co66) := (ΩJ BK273.out 1).trans rfl; have hfz78_0 := ΩF BK273.out 0; have hfz78_1 := ΩF BK273.out 1) | ((with_reducible refine gate_callee (f := 19) rfl ?_); refine goesL_ (some 35) rfl rfl Try.func19 (by kernel_rfl) rfl #[.agg #[.slice Ao61 t267.length co61, .slice Ao66 t270.length co66], .agg #[.slice Ao71 t274.length co71, .slice Ao77 t277.length co77, .int .i64 t280, .int .i64 t281]] rfl (by (try simp only [List.map_toArray, List.map_cons, List.map_nil]); first | done | rfl | (simp only [List.length_drop, List.length_take]; rfl)) ?_; (with_reducible refine (impl_Look.calls k _ _ t267 _ _ t270 _ _ t274 _ _ t277 t280 t281 t283 t286 _ ?side1 ?side2 ?side3 ?side4 ?side5 ?side6 ?side7 ?side8 A24.out).mono ?_); (case side1 => refine (Kd.R_reads' (e := 3) (base := w.heap.size) (ok := fun k_ => ((((((((some k_ ≠ (.slice Ao66 t270.length co66 : Value).ownBlock ∧ some k_ ≠ (v247 : Value).ownBlock) ∧ some k_ ≠ (v250 : Value).ownBlock) ∧ some k_ ≠ (v253 : Value).ownBlock) ∧ some k_ ≠ (v256 : Value).ownBlock) ∧ some k_ ≠ (.slice Ao53 t260.length co53 : Value).ownBlock) ∧ some k_ ≠ (.slice Ao55 t263.length co55 : Value).ownBlock) ∧ some k_ ≠ (.slice Ao71 t274.length co71 : Value).ownBlock) ∧ some k_ ≠ (.slice Ao77 t277.length co77 : Value).ownBlock)) (n := t267.length) (c := co61) ?_).2.2; exact (Ru (Rf4 HO269.out BK282.out (by decide) (.slice Ao71 t274.length co71) (.slice Ao77 t277.length co77) (.int .i64 t280) (.int .i64 t281)))); (case side2 => exact (Kd.R_reads' HO269.out).2.1); (case side3 => refine (Kd.R_reads' (e := 3) (base := w.heap.size) (ok := fun k_ => ((((((((some k_ ≠ (.slice Ao61 t267.length co61 : Value).ownBlock ∧ some k_ ≠ (v247 : Value).ownBlock) ∧ some k_ ≠ (v250 : Value).ownBlock) ∧ some k_ ≠ (v253 : Value).ownBlock) ∧ some k_ ≠ (v256 : Value).ownBlock) ∧ some k_ ≠ (.slice Ao53 t260.length co53 : Value).ownBlock) ∧ some k_ ≠ (.slice Ao55 t263.length co55 : Value).ownBlock) ∧ some k_ ≠ (.slice Ao71 t274.length co71 : Value).ownBlock) ∧ some k_ ≠ (.slice Ao77 t277.length co77 : Value).ownBlock)) (n := t270.length) (c := co66) ?_).2.2; exact (Ru (Rf4 HO272.out BK282.out (by decide) (.slice Ao71 t274.length co71) (.slice Ao77 t277.length co77) (.int .i64 t280) (.int .i64 t281)))); (case side4 => exact (Kd.R_reads' HO272.out).2.1); (case side5 => refine (Kd.R_reads' (e := 3) (base := w.heap.size) (ok := fun k_ => ((((((((some k_ ≠ (.slice Ao77 t277.length co77 : Value).ownBlock ∧ some k_ ≠ (v247 : Value).ownBlock) ∧ some k_ ≠ (v250 : Value).ownBlock) ∧ some k_ ≠ (v253 : Value).ownBlock) ∧ some k_ ≠ (v256 : Value).ownBlock) ∧ some k_ ≠ (.slice Ao53 t260.length co53 : Value).ownBlock) ∧ some k_ ≠ (.slice Ao55 t263.length co55 : Value).ownBlock) ∧ some k_ ≠ (.slice Ao61 t267.length co61 : Value).ownBlock) ∧ some k_ ≠ (.slice Ao66 t270.length co66 : Value).ownBlock)) (n := t274.length) (c := co71) ?_).2.2; exact (Ru (Rf4 HO276.out BK282.out (by decide) (.slice Ao71 t274.length co71) (.slice Ao77 t277.length co77) (.int .i64 t280) (.int .i64 t281)))); (case side6 => exact (Kd.R_reads' HO276.out).2.1); (case side7 => refine (Kd.R_reads' (e := 3) (base := w.heap.size) (ok := fun k_ => ((((((((some k_ ≠ (.slice Ao71 t274.length co71 : Value).ownBlock ∧ some k_ ≠ (v247 : Value).ownBlock) ∧ some k_ ≠ (v250 : Value).ownBlock) ∧ some k_ ≠ (v253 : Value).ownBlock) ∧ some k_ ≠ (v256 : Value).ownBlock) ∧ some k_ ≠ (.slice Ao53 t260.length co53 : Value).ownBlock) ∧ some k_ ≠ (.slice Ao55 t263.length co55 : Value).ownBlock) ∧ some k_ ≠ (.slice Ao61 t267.length co61 : Value).ownBlock) ∧ some k_ ≠ (.slice Ao66 t270.length co66 : Value).ownBlock)) (n := t277.length) (c := co77) ?_).2.2; exact (Ru (Rf4 HO279.out BK282.out (by decide) (.slice Ao71 t274.length co71) (.slice Ao77 t277.length co77) (.int .i64 t280) (.int .i64 t281)))); (case side8 => exact (Kd.R_reads' HO279.out).2.1); rintro e w79 ⟨v284, v287, rfl, ho0, ho1, hb⟩; refine ⟨_, rfl, ?_⟩; have HO285 := Ω5 (Kd.R_lower (Kd.R_new' (Kd.R_new' (Kd.R_new' (Kd.R_new' (Kd.R_new' (Kd.R_new' (Kd.R_new' (Kd.R_new' (Kd.R_new' (Kd.R_new' ho0 (Kd.R_lt (Ru (Rf4 HO248.out BK282.out (by decide) (.slice Ao71 t274.length co71) (.slice Ao77 t277.length co77) (.int .i64 t280) (.int .i64 t281))))) (Kd.R_lt (Ru (Rf4 HO251.out BK282.out (by decide) (.slice Ao71 t274.length co71) (.slice Ao77 t277.length co77) (.int .i64 t280) (.int .i64 t281))))) (Kd.R_lt (Ru (Rf4 HO254.out BK282.out (by decide) (.slice Ao71 t274.length co71) (.slice Ao77 t277.length co77) (.int .i64 t280) (.int .i64 t281))))) (Kd.R_lt (Ru (Rf4 HO257.out BK282.out (by decide) (.slice Ao71 t274.length co71) (.slice Ao77 t277.length co77) (.int .i64 t280) (.int .i64 t281))))) (Kd.R_lt (Ru (Rf4 HO262.out BK282.out (by decide) (.slice Ao71 t274.length co71) (.slice Ao77 t277.length co77) (.int .i64 t280) (.int .i64 t281))))) (Kd.R_lt (Ru (Rf4 HO265.out BK282.out (by decide) (.slice Ao71 t274.length co71) (.slice Ao77 t277.length co77) (.int .i64 t280) (.int .i64 t281))))) (Kd.R_lt (Ru (Rf4 HO269.out BK282.out (by decide) (.slice Ao71 t274.length co71) (.slice Ao77 t277.length co77) (.int .i64 t280) (.int .i64 t281))))) (Kd.R_lt (Ru (Rf4 HO272.out BK282.out (by decide) (.slice Ao71 t274.length co71) (.slice Ao77 t277.length co77) (.int .i64 t280) (.int .i64 t281))))) (Kd.R_lt (Ru (Rf4 HO276.out BK282.out (by decide) (.slice Ao71 t274.length co71) (.slice Ao77 t277.length co77) (.int .i64 t280) (.int .i64 t281))))) (Kd.R_lt (Ru (Rf4 HO279.out BK282.out (by decide) (.slice Ao71 t274.length co71) (.slice Ao77 t277.length co77) (.int .i64 t280) (.int .i64 t281))))) (below_size (HBu HB.out))); have HO288 := Ω5 (Kd.R_lower (Kd.R_new' (Kd.R_new' (Kd.R_new' (Kd.R_new' (Kd.R_new' (Kd.R_new' (Kd.R_new' (Kd.R_new' (Kd.R_new' (Kd.R_new' ho1 (Kd.R_lt (Ru (Rf4 HO248.out BK282.out (by decide) (.slice Ao71 t274.length co71) (.slice Ao77 t277.length co77) (.int .i64 t280) (.int .i64 t281))))) (Kd.R_lt (Ru (Rf4 HO251.out BK282.out (by decide) (.slice Ao71 t274.length co71) (.slice Ao77 t277.length co77) (.int .i64 t280) (.int .i64 t281))))) (Kd.R_lt (Ru (Rf4 HO254.out BK282.out (by decide) (.slice Ao71 t274.length co71) (.slice Ao77 t277.length co77) (.int .i64 t280) (.int .i64 t281))))) (Kd.R_lt (Ru (Rf4 HO257.out BK282.out (by decide) (.slice Ao71 t274.length co71) (.slice Ao77 t277.length co77) (.int .i64 t280) (.int .i64 t281))))) (Kd.R_lt (Ru (Rf4 HO262.out BK282.out (by decide) (.slice Ao71 t274.length co71) (.slice Ao77 t277.length co77) (.int .i64 t280) (.int .i64 t281))))) (Kd.R_lt (Ru (Rf4 HO265.out BK282.out (by decide) (.slice Ao71 t274.length co71) (.slice Ao77 t277.length co77) (.int .i64 t280) (.int .i64 t281))))) (Kd.R_lt (Ru (Rf4 HO269.out BK282.out (by decide) (.slice Ao71 t274.length co71) (.slice Ao77 t277.length co77) (.int .i64 t280) (.int .i64 t281))))) (Kd.R_lt (Ru (Rf4 HO272.out BK282.out (by decide) (.slice Ao71 t274.length co71) (.slice Ao77 t277.length co77) (.int .i64 t280) (.int .i64 t281))))) (Kd.R_lt (Ru (Rf4 HO276.out BK282.out (by decide) (.slice Ao71 t274.length co71) (.slice Ao77 t277.length co77) (.int .i64 t280) (.int .i64 t281))))) (Kd.R_lt (Ru (Rf4 HO279.out BK282.out (by decide) (.slice Ao71 t274.length co71) (.slice Ao77 t277.length co77) (.int .i64 t280) (.int .i64 t281))))) (below_size (HBu HB.out))); replace HO248 := Ω5 (ΩE (Kd.R_told (Kd.R_told (Kd.R_old (Ru (Rf4 HO248.out BK282.out (by decide) (.slice Ao71 t274.length co71) (.slice Ao77 t277.length co77) (.int .i64 t280) (.int .i64 t281))) hb) (Kd.R_base ho0)) (Kd.R_base ho1)) (fun _ h_ => h_.1)); replace HO251 := Ω5 (ΩE (Kd.R_told (Kd.R_told (Kd.R_old (Ru (Rf4 HO251.out BK282.out (by decide) (.slice Ao71 t274.length co71) (.slice Ao77 t277.length co77) (.int .i64 t280) (.int .i64 t281))) hb) (Kd.R_base ho0)) (Kd.R_base ho1)) (fun _ h_ => h_.1)); replace HO254 := Ω5 (ΩE (Kd.R_told (Kd.R_told (Kd.R_old (Ru (Rf4 HO254.out BK282.out (by decide) (.slice Ao71 t274.length co71) (.slice Ao77 t277.length co77) (.int .i64 t280) (.int .i64 t281))) hb) (Kd.R_base ho0)) (Kd.R_base ho1)) (fun _ h_ => h_.1)); replace HO257 := Ω5 (ΩE (Kd.R_told (Kd.R_told (Kd.R_old (Ru (Rf4 HO257.out BK282.out (by decide) (.slice Ao71 t274.length co71) (.slice Ao77 t277.length co77) (.int .i64 t280) (.int .i64 t281))) hb) (Kd.R_base ho0)) (Kd.R_base ho1)) (fun _ h_ => h_.1)); replace HO262 := Ω5 (ΩE (Kd.R_told (Kd.R_told (Kd.R_old (Ru (Rf4 HO262.out BK282.out (by decide) (.slice Ao71 t274.length co71) (.slice Ao77 t277.length co77) (.int .i64 t280) (.int .i64 t281))) hb) (Kd.R_base ho0)) (Kd.R_base ho1)) (fun _ h_ => h_.1)); replace HO265 := Ω5 (ΩE (Kd.R_told (Kd.R_told (Kd.R_old (Ru (Rf4 HO265.out BK282.out (by decide) (.slice Ao71 t274.length co71) (.slice Ao77 t277.length co77) (.int .i64 t280) (.int .i64 t281))) hb) (Kd.R_base ho0)) (Kd.R_base ho1)) (fun _ h_ => h_.1)); replace HO269 := Ω5 (ΩE (Kd.R_told (Kd.R_told (Kd.R_old (Ru (Rf4 HO269.out BK282.out (by decide) (.slice Ao71 t274.length co71) (.slice Ao77 t277.length co77) (.int .i64 t280) (.int .i64 t281))) hb) (Kd.R_base ho0)) (Kd.R_base ho1)) (fun _ h_ => h_.1)); replace HO272 := Ω5 (ΩE (Kd.R_told (Kd.R_told (Kd.R_old (Ru (Rf4 HO272.out BK282.out (by decide) (.slice Ao71 t274.length co71) (.slice Ao77 t277.length co77) (.int .i64 t280) (.int .i64 t281))) hb) (Kd.R_base ho0)) (Kd.R_base ho1)) (fun _ h_ => h_.1)); replace HO276 := Ω5 (ΩE (Kd.R_told (Kd.R_told (Kd.R_old (Ru (Rf4 HO276.out BK282.out (by decide) (.slice Ao71 t274.length co71) (.slice Ao77 t277.length co77) (.int .i64 t280) (.int .i64 t281))) hb) (Kd.R_base ho0)) (Kd.R_base ho1)) (fun _ h_ => h_.1)); replace HO279 := Ω5 (ΩE (Kd.R_told (Kd.R_told (Kd.R_old (Ru (Rf4 HO279.out BK282.out (by decide) (.slice Ao71 t274.length co71) (.slice Ao77 t277.length co77) (.int .i64 t280) (.int .i64 t281))) hb) (Kd.R_base ho0)) (Kd.R_base ho1)) (fun _ h_ => h_.1)); replace BK242 := Ω5 (blk_below (g := gb242) (o := .cells #[.slice A0_0 l0_0.length c0_0, .slice A0_1 l0_1.length c0_1] 24 (0, 0)) (by (with_reducible repeat (first | refine ΩA ?_ _ | refine ΩC ?_ | refine ΩB ?_ _)); refine blk_far ?_ NB242_282.out _; (with_reducible repeat (first | refine ΩA ?_ _ | refine ΩC ?_ | refine ΩB ?_ _)); refine blk_far ?_ NB242_282.out _; (with_reducible repeat (first | refine ΩA ?_ _ | refine ΩC ?_ | refine ΩB ?_ _)); refine blk_far ?_ NB242_282.out _; (with_reducible repeat (first | refine ΩA ?_ _ | refine ΩC ?_ | refine ΩB ?_ _)); refine blk_far ?_ NB242_282.out _; (with_reducible repeat (first | refine ΩA ?_ _ | refine ΩC ?_ | refine ΩB ?_ _)); exact BK242.out) hb); replace BK243 := Ω5 (blk_below (g := gb243) (o := .cells #[.slice A1_0 l1_0.length c1_0, .slice A1_1 l1_1.length c1_1, .int .i64 a1_2, .int .i64 a1_3] 33 (0, 0)) (by (with_reducible repeat (first | refine ΩA ?_ _ | refine ΩC ?_ | refine ΩB ?_ _)); refine blk_far ?_ NB243_282.out _; (with_reducible repeat (first | refine ΩA ?_ _ | refine ΩC ?_ | refine ΩB ?_ _)); refine blk_far ?_ NB243_282.out _; (with_reducible repeat (first | refine ΩA ?_ _ | refine ΩC ?_ | refine ΩB ?_ _)); refine blk_far ?_ NB243_282.out _; (with_reducible repeat (first | refine ΩA ?_ _ | refine ΩC ?_ | refine ΩB ?_ _)); refine blk_far ?_ NB243_282.out _; (with_reducible repeat (first | refine ΩA ?_ _ | refine ΩC ?_ | refine ΩB ?_ _)); exact BK243.out) hb); replace BK266 := Ω5 (blk_below (g := gb266) (o := .cells #[.slice Ao53 t260.length co53, .slice Ao55 t263.length co55] 26 (0, 0)) (by (with_reducible repeat (first | refine ΩA ?_ _ | refine ΩC ?_ | refine ΩB ?_ _)); refine blk_far ?_ NB266_282.out _; (with_reducible repeat (first | refine ΩA ?_ _ | refine ΩC ?_ | refine ΩB ?_ _)); refine blk_far ?_ NB266_282.out _; (with_reducible repeat (first | refine ΩA ?_ _ | refine ΩC ?_ | refine ΩB ?_ _)); refine blk_far ?_ NB266_282.out _; (with_reducible repeat (first | refine ΩA ?_ _ | refine ΩC ?_ | refine ΩB ?_ _)); refine blk_far ?_ NB266_282.out _; (with_reducible repeat (first | refine ΩA ?_ _ | refine ΩC ?_ | refine ΩB ?_ _)); exact BK266.out) hb); replace BK273 := Ω5 (blk_below (g := gb273) (o := .cells #[.slice Ao61 t267.length co61, .slice Ao66 t270.length co66] 26 (0, 0)) (by (with_reducible repeat (first | refine ΩA ?_ _ | refine ΩC ?_ | refine ΩB ?_ _)); refine blk_far ?_ NB273_282.out _; (with_reducible repeat (first | refine ΩA ?_ _ | refine ΩC ?_ | refine ΩB ?_ _)); refine blk_far ?_ NB273_282.out _; (with_reducible repeat (first | refine ΩA ?_ _ | refine ΩC ?_ | refine ΩB ?_ _)); refine blk_far ?_ NB273_282.out _; (with_reducible repeat (first | refine ΩA ?_ _ | refine ΩC ?_ | refine ΩB ?_ _)); refine blk_far ?_ NB273_282.out _; (with_reducible repeat (first | refine ΩA ?_ _ | refine ΩC ?_ | refine ΩB ?_ _)); exact BK273.out) hb); replace BK282 := Ω5 (blk_below (g := gb282) (o := .cells #[.slice Ao71 t274.length co71, .slice Ao77 t277.length co77, .int .i64 t280, .int .i64 t281] 36 (0, 0)) (by (with_reducible repeat (first | refine ΩA ?_ _ | refine ΩC ?_ | refine ΩB ?_ _)); refine blk_put (cs := #[.slice Ao71 t274.length co71, .slice Ao77 t277.length co77, .int .i64 t280, .int .i64 0]) ?_ 3 _ rfl; (with_reducible repeat (first | refine ΩA ?_ _ | refine ΩC ?_ | refine ΩB ?_ _)); refine blk_put (cs := #[.slice Ao71 t274.length co71, .slice Ao77 t277.length co77, .int .i64 0, .int .i64 0]) ?_ 2 _ rfl; (with_reducible repeat (first | refine ΩA ?_ _ | refine ΩC ?_ | refine ΩB ?_ _)); refine blk_put (cs := #[.slice Ao71 t274.length co71, .slice none 0 0, .int .i64 0, .int .i64 0]) ?_ 1 _ rfl; (with_reducible repeat (first | refine ΩA ?_ _ | refine ΩC ?_ | refine ΩB ?_ _)); refine blk_put (cs := #[.slice none 0 0, .slice none 0 0, .int .i64 0, .int .i64 0]) ?_ 0 _ rfl; (with_reducible repeat (first | refine ΩA ?_ _ | refine ΩC ?_ | refine ΩB ?_ _)); exact BK282.out) hb); replace HB := Ω5 (below_step (HBu HB.out) hb); (try clear hb); (try clear hb2); (try clear hk); (try clear hi); (try clear ho0); (try clear ho1)) | ((with_reducible refine gate_dst (N := 9) rfl ?_); refine box_event ?hg (N := 9) ?hd (cs := #[.slice none 0 0, .slice none 0 0]) (t := 26) ?hr ?_; (case hd => rfl); (case hg => rfl); (case hr => first | (go_simp; done) | (go_simp; rfl)); intro gb289 hg w80 hbox hb; have BK289 := Ω5 (hbox); have GW289 := Ω5 ((by rw [hg]; exact (below_size (HBu HB.out)) : w.heap.size ≤ gb289)); have GE289 := Ω5 ((by rw [hg]; exact (below_size (HBu HB.out)) : w.heap.size ≤ gb289)); have NB242_289 := Ω5 ((by rw [hg]; exact Nat.ne_of_lt (blk_lt (g := gb242) (o := .cells #[.slice A0_0 l0_0.length c0_0, .slice A0_1 l0_1.length c0_1] 24 (0, 0)) (Bu BK242.out)) : gb242 ≠ gb289)); have NB289_242 := Ω5 ((by rw [hg]; exact Nat.ne_of_gt (blk_lt (g := gb242) (o := .cells #[.slice A0_0 l0_0.length c0_0, .slice A0_1 l0_1.length c0_1] 24 (0, 0)) (Bu BK242.out)) : gb289 ≠ gb242)); have NB243_289 := Ω5 ((by rw [hg]; exact Nat.ne_of_lt (blk_lt (g := gb243) (o := .cells #[.slice A1_0 l1_0.length c1_0, .slice A1_1 l1_1.length c1_1, .int .i64 a1_2, .int .i64 a1_3] 33 (0, 0)) (Bu BK243.out)) : gb243 ≠ gb289)); have NB289_243 := Ω5 ((by rw [hg]; exact Nat.ne_of_gt (blk_lt (g := gb243) (o := .cells #[.slice A1_0 l1_0.length c1_0, .slice A1_1 l1_1.length c1_1, .int .i64 a1_2, .int .i64 a1_3] 33 (0, 0)) (Bu BK243.out)) : gb289 ≠ gb243)); have NB266_289 := Ω5 ((by rw [hg]; exact Nat.ne_of_lt (blk_lt (g := gb266) (o := .cells #[.slice Ao53 t260.length co53, .slice Ao55 t263.length co55] 26 (0, 0)) (Bu BK266.out)) : gb266 ≠ gb289)); have NB289_266 := Ω5 ((by rw [hg]; exact Nat.ne_of_gt (blk_lt (g := gb266) (o := .cells #[.slice Ao53 t260.length co53, .slice Ao55 t263.length co55] 26 (0, 0)) (Bu BK266.out)) : gb289 ≠ gb266)); have NB273_289 := Ω5 ((by rw [hg]; exact Nat.ne_of_lt (blk_lt (g := gb273) (o := .cells #[.slice Ao61 t267.length co61, .slice Ao66 t270.length co66] 26 (0, 0)) (Bu BK273.out)) : gb273 ≠ gb289)); have NB289_273 := Ω5 ((by rw [hg]; exact Nat.ne_of_gt (blk_lt (g := gb273) (o := .cells #[.slice Ao61 t267.length co61, .slice Ao66 t270.length co66] 26 (0, 0)) (Bu BK273.out)) : gb289 ≠ gb273)); have NB282_289 := Ω5 ((by rw [hg]; exact Nat.ne_of_lt (blk_lt (g := gb282) (o := .cells #[.slice Ao71 t274.length co71, .slice Ao77 t277.length co77, .int .i64 t280, .int .i64 t281] 36 (0, 0)) (Bu BK282.out)) : gb282 ≠ gb289)); have NB289_282 := Ω5 ((by rw [hg]; exact Nat.ne_of_gt (blk_lt (g := gb282) (o := .cells #[.slice Ao71 t274.length co71, .slice Ao77 t277.length co77, .int .i64 t280, .int .i64 t281] 36 (0, 0)) (Bu BK282.out)) : gb289 ≠ gb282)); replace HO248 := Ω5 (Rb HO248.out hb); replace HO251 := Ω5 (Rb HO251.out hb); replace HO254 := Ω5 (Rb HO254.out hb); replace HO257 := Ω5 (Rb HO257.out hb); replace HO262 := Ω5 (Rb HO262.out hb); replace HO265 := Ω5 (Rb HO265.out hb); replace HO269 := Ω5 (Rb HO269.out hb); replace HO272 := Ω5 (Rb HO272.out hb); replace HO276 := Ω5 (Rb HO276.out hb); replace HO279 := Ω5 (Rb HO279.out hb); replace HO285 := Ω5 (Rb HO285.out hb); replace HO288 := Ω5 (Rb HO288.out hb); replace BK242 := Ω5 (Bb BK242.out hb); replace BK243 := Ω5 (Bb BK243.out hb); replace BK266 := Ω5 (Bb BK266.out hb); replace BK273 := Ω5 (Bb BK273.out hb); replace BK282 := Ω5 (Bb BK282.out hb); replace HB := Ω5 (below_step (HBu HB.out) hb); clear hb hbox hg; obtain ⟨Ao81, co81, eo81⟩ := Kd.R_slice HO285.out; subst eo81; have hnb82 := NB289_242.out; have hnc82 := NB242_289.out; have hnb83 := NB289_243.out; have hnc83 := NB243_289.out; have hnb84 := NB289_266.out; have hnc84 := NB266_289.out; have hnb85 := NB289_273.out; have hnc85 := NB273_289.out; have hnb86 := NB289_282.out; have hnc86 := NB282_289.out; have hcz87_0 : w80.cell? ⟨gb289, 0, none⟩ = some (.slice none 0 0) := (ΩJ BK289.out 0).trans rfl; have hcz87_1 : w80.cell? ⟨gb289, 1, none⟩ = some (.slice none 0 0) := (ΩJ BK289.out 1).trans rfl; have hfz87_0 := ΩF BK289.out 0; have hfz87_1 := ΩF BK289.out 1; obtain ⟨Ao88, co88, eo88⟩ := Kd.R_slice HO288.out; subst eo88; have hcz89_0 : w80.cell? ⟨gb266, 0, none⟩ = some (.slice Ao53 t260.length co53) := (ΩJ BK266.out 0).trans rfl; have hcz89_1 : w80.cell? ⟨gb266, 1, none⟩ = some (.slice Ao55 t263.length co55) := (ΩJ BK266.out 1).trans rfl; have hfz89_0 := ΩF BK266.out 0; have hfz89_1 := ΩF BK266.out 1) | ((with_reducible refine gate_callee (f := 13) rfl ?_); refine goesL_ (some 38) rfl rfl Try.func13 (by kernel_rfl) rfl #[.agg #[.slice Ao81 t283.length co81, .slice Ao88 t286.length co88], .agg #[.slice Ao53 t260.length co53, .slice Ao55 t263.length co55]] rfl (by (try simp only [List.map_toArray, List.map_cons, List.map_nil]); first | done | rfl | (simp only [List.length_drop, List.length_take]; rfl)) ?_; (with_reducible refine (laws_eqTensor.calls k _ _ t283 _ _ t286 _ _ t260 _ _ t263 true _ ?side1 ?side2 ?side3 ?side4 ?side5 ?side6 ?side7 ?side8 A25.out).mono ?_); (case side1 => refine (Kd.R_reads' (e := 3) (base := w.heap.size) (ok := fun k_ => ((((((((((some k_ ≠ (.slice Ao88 t286.length co88 : Value).ownBlock ∧ some k_ ≠ (v247 : Value).ownBlock) ∧ some k_ ≠ (v250 : Value).ownBlock) ∧ some k_ ≠ (v253 : Value).ownBlock) ∧ some k_ ≠ (v256 : Value).ownBlock) ∧ some k_ ≠ (.slice Ao53 t260.length co53 : Value).ownBlock) ∧ some k_ ≠ (.slice Ao55 t263.length co55 : Value).ownBlock) ∧ some k_ ≠ (.slice Ao61 t267.length co61 : Value).ownBlock) ∧ some k_ ≠ (.slice Ao66 t270.length co66 : Value).ownBlock) ∧ some k_ ≠ (.slice Ao71 t274.length co71 : Value).ownBlock) ∧ some k_ ≠ (.slice Ao77 t277.length co77 : Value).ownBlock)) (n := t283.length) (c := co81) ?_).2.2; exact (Ru (Rf2 HO285.out BK289.out (by decide) (.slice Ao81 t283.length co81) (.slice Ao88 t286.length co88)))); (case side2 => exact (Kd.R_reads' HO285.out).2.1); (case side3 => refine (Kd.R_reads' (e := 3) (base := w.heap.size) (ok := fun k_ => ((((((((((some k_ ≠ (.slice Ao81 t283.length co81 : Value).ownBlock ∧ some k_ ≠ (v247 : Value).ownBlock) ∧ some k_ ≠ (v250 : Value).ownBlock) ∧ some k_ ≠ (v253 : Value).ownBlock) ∧ some k_ ≠ (v256 : Value).ownBlock) ∧ some k_ ≠ (.slice Ao53 t260.length co53 : Value).ownBlock) ∧ some k_ ≠ (.slice Ao55 t263.length co55 : Value).ownBlock) ∧ some k_ ≠ (.slice Ao61 t267.length co61 : Value).ownBlock) ∧ some k_ ≠ (.slice Ao66 t270.length co66 : Value).ownBlock) ∧ some k_ ≠ (.slice Ao71 t274.length co71 : Value).ownBlock) ∧ some k_ ≠ (.slice Ao77 t277.length co77 : Value).ownBlock)) (n := t286.length) (c := co88) ?_).2.2; exact (Ru (Rf2 HO288.out BK289.out (by decide) (.slice Ao81 t283.length co81) (.slice Ao88 t286.length co88)))); (case side4 => exact (Kd.R_reads' HO288.out).2.1); (case side5 => refine (Kd.R_reads' (e := 3) (base := w.heap.size) (ok := fun k_ => (((((((some k_ ≠ (v247 : Value).ownBlock ∧ (some k_ ≠ (v250 : Value).ownBlock ∧ (some k_ ≠ (v253 : Value).ownBlock ∧ (some k_ ≠ (v256 : Value).ownBlock ∧ some k_ ≠ (.slice Ao55 t263.length co55 : Value).ownBlock)))) ∧ some k_ ≠ (.slice Ao61 t267.length co61 : Value).ownBlock) ∧ some k_ ≠ (.slice Ao66 t270.length co66 : Value).ownBlock) ∧ some k_ ≠ (.slice Ao71 t274.length co71 : Value).ownBlock) ∧ some k_ ≠ (.slice Ao77 t277.length co77 : Value).ownBlock) ∧ some k_ ≠ (.slice Ao81 t283.length co81 : Value).ownBlock) ∧ some k_ ≠ (.slice Ao88 t286.length co88 : Value).ownBlock)) (n := t260.length) (c := co53) ?_).2.2; exact (Ru (Rf2 HO262.out BK289.out (by decide) (.slice Ao81 t283.length co81) (.slice Ao88 t286.length co88)))); (case side6 => exact (Kd.R_reads' HO262.out).2.1); (case side7 => refine (Kd.R_reads' (e := 3) (base := w.heap.size) (ok := fun k_ => (((((((some k_ ≠ (v247 : Value).ownBlock ∧ (some k_ ≠ (v250 : Value).ownBlock ∧ (some k_ ≠ (v253 : Value).ownBlock ∧ (some k_ ≠ (v256 : Value).ownBlock ∧ some k_ ≠ (.slice Ao53 t260.length co53 : Value).ownBlock)))) ∧ some k_ ≠ (.slice Ao61 t267.length co61 : Value).ownBlock) ∧ some k_ ≠ (.slice Ao66 t270.length co66 : Value).ownBlock) ∧ some k_ ≠ (.slice Ao71 t274.length co71 : Value).ownBlock) ∧ some k_ ≠ (.slice Ao77 t277.length co77 : Value).ownBlock) ∧ some k_ ≠ (.slice Ao81 t283.length co81 : Value).ownBlock) ∧ some k_ ≠ (.slice Ao88 t286.length co88 : Value).ownBlock)) (n := t263.length) (c := co55) ?_).2.2; exact (Ru (Rf2 HO265.out BK289.out (by decide) (.slice Ao81 t283.length co81) (.slice Ao88 t286.length co88)))); (case side8 => exact (Kd.R_reads' HO265.out).2.1); rintro e w90 ⟨rfl, hb⟩; refine ⟨_, rfl, ?_⟩; replace HO248 := Ω5 (ΩD (Ru (Rf2 HO248.out BK289.out (by decide) (.slice Ao81 t283.length co81) (.slice Ao88 t286.length co88))) hb); replace HO251 := Ω5 (ΩD (Ru (Rf2 HO251.out BK289.out (by decide) (.slice Ao81 t283.length co81) (.slice Ao88 t286.length co88))) hb); replace HO254 := Ω5 (ΩD (Ru (Rf2 HO254.out BK289.out (by decide) (.slice Ao81 t283.length co81) (.slice Ao88 t286.length co88))) hb); replace HO257 := Ω5 (ΩD (Ru (Rf2 HO257.out BK289.out (by decide) (.slice Ao81 t283.length co81) (.slice Ao88 t286.length co88))) hb); replace HO262 := Ω5 (ΩD (Ru (Rf2 HO262.out BK289.out (by decide) (.slice Ao81 t283.length co81) (.slice Ao88 t286.length co88))) hb); replace HO265 := Ω5 (ΩD (Ru (Rf2 HO265.out BK289.out (by decide) (.slice Ao81 t283.length co81) (.slice Ao88 t286.length co88))) hb); replace HO269 := Ω5 (ΩD (Ru (Rf2 HO269.out BK289.out (by decide) (.slice Ao81 t283.length co81) (.slice Ao88 t286.length co88))) hb); replace HO272 := Ω5 (ΩD (Ru (Rf2 HO272.out BK289.out (by decide) (.slice Ao81 t283.length co81) (.slice Ao88 t286.length co88))) hb); replace HO276 := Ω5 (ΩD (Ru (Rf2 HO276.out BK289.out (by decide) (.slice Ao81 t283.length co81) (.slice Ao88 t286.length co88))) hb); replace HO279 := Ω5 (ΩD (Ru (Rf2 HO279.out BK289.out (by decide) (.slice Ao81 t283.length co81) (.slice Ao88 t286.length co88))) hb); replace HO285 := Ω5 (ΩD (Ru (Rf2 HO285.out BK289.out (by decide) (.slice Ao81 t283.length co81) (.slice Ao88 t286.length co88))) hb); replace HO288 := Ω5 (ΩD (Ru (Rf2 HO288.out BK289.out (by decide) (.slice Ao81 t283.length co81) (.slice Ao88 t286.length co88))) hb); replace BK242 := Ω5 (blk_below (g := gb242) (o := .cells #[.slice A0_0 l0_0.length c0_0, .slice A0_1 l0_1.length c0_1] 24 (0, 0)) (by (with_reducible repeat (first | refine ΩA ?_ _ | refine ΩC ?_ | refine ΩB ?_ _)); refine blk_far ?_ NB242_289.out _; (with_reducible repeat (first | refine ΩA ?_ _ | refine ΩC ?_ | refine ΩB ?_ _)); refine blk_far ?_ NB242_289.out _; (with_reducible repeat (first | refine ΩA ?_ _ | refine ΩC ?_ | refine ΩB ?_ _)); exact BK242.out) hb); replace BK243 := Ω5 (blk_below (g := gb243) (o := .cells #[.slice A1_0 l1_0.length c1_0, .slice A1_1 l1_1.length c1_1, .int .i64 a1_2, .int .i64 a1_3] 33 (0, 0)) (by (with_reducible repeat (first | refine ΩA ?_ _ | refine ΩC ?_ | refine ΩB ?_ _)); refine blk_far ?_ NB243_289.out _; (with_reducible repeat (first | refine ΩA ?_ _ | refine ΩC ?_ | refine ΩB ?_ _)); refine blk_far ?_ NB243_289.out _; (with_reducible repeat (first | refine ΩA ?_ _ | refine ΩC ?_ | refine ΩB ?_ _)); exact BK243.out) hb); replace BK266 := Ω5 (blk_below (g := gb266) (o := .cells #[.slice Ao53 t260.length co53, .slice Ao55 t263.length co55] 26 (0, 0)) (by (with_reducible repeat (first | refine ΩA ?_ _ | refine ΩC ?_ | refine ΩB ?_ _)); refine blk_far ?_ NB266_289.out _; (with_reducible repeat (first | refine ΩA ?_ _ | refine ΩC ?_ | refine ΩB ?_ _)); refine blk_far ?_ NB266_289.out _; (with_reducible repeat (first | refine ΩA ?_ _ | refine ΩC ?_ | refine ΩB ?_ _)); exact BK266.out) hb); replace BK273 := Ω5 (blk_below (g := gb273) (o := .cells #[.slice Ao61 t267.length co61, .slice Ao66 t270.length co66] 26 (0, 0)) (by (with_reducible repeat (first | refine ΩA ?_ _ | refine ΩC ?_ | refine ΩB ?_ _)); refine blk_far ?_ NB273_289.out _; (with_reducible repeat (first | refine ΩA ?_ _ | refine ΩC ?_ | refine ΩB ?_ _)); refine blk_far ?_ NB273_289.out _; (with_reducible repeat (first | refine ΩA ?_ _ | refine ΩC ?_ | refine ΩB ?_ _)); exact BK273.out) hb); replace BK282 := Ω5 (blk_below (g := gb282) (o := .cells #[.slice Ao71 t274.length co71, .slice Ao77 t277.length co77, .int .i64 t280, .int .i64 t281] 36 (0, 0)) (by (with_reducible repeat (first | refine ΩA ?_ _ | refine ΩC ?_ | refine ΩB ?_ _)); refine blk_far ?_ NB282_289.out _; (with_reducible repeat (first | refine ΩA ?_ _ | refine ΩC ?_ | refine ΩB ?_ _)); refine blk_far ?_ NB282_289.out _; (with_reducible repeat (first | refine ΩA ?_ _ | refine ΩC ?_ | refine ΩB ?_ _)); exact BK282.out) hb); replace BK289 := Ω5 (blk_below (g := gb289) (o := .cells #[.slice Ao81 t283.length co81, .slice Ao88 t286.length co88] 26 (0, 0)) (by (with_reducible repeat (first | refine ΩA ?_ _ | refine ΩC ?_ | refine ΩB ?_ _)); refine blk_put (cs := #[.slice Ao81 t283.length co81, .slice none 0 0]) ?_ 1 _ rfl; (with_reducible repeat (first | refine ΩA ?_ _ | refine ΩC ?_ | refine ΩB ?_ _)); refine blk_put (cs := #[.slice none 0 0, .slice none 0 0]) ?_ 0 _ rfl; (with_reducible repeat (first | refine ΩA ?_ _ | refine ΩC ?_ | refine ΩB ?_ _)); exact BK289.out) hb); replace HB := Ω5 (below_step (HBu HB.out) hb); (try clear hb); (try clear hb2); (try clear hk); (try clear hi)))
      replace HO262 := Ω5 (Ω3 HO262.out)
      replace HO265 := Ω5 (Ω3 HO265.out)
      replace HO269 := Ω5 (Ω3 HO269.out)
      replace HO272 := Ω5 (Ω3 HO272.out)
      replace HO276 := Ω5 (Ω3 HO276.out)
      replace HO279 := Ω5 (Ω3 HO279.out)
      replace HO285 := Ω5 (Ω3 HO285.out)
      replace HO288 := Ω5 (Ω3 HO288.out)
      replace BK242 := Ω5 (ΩC BK242.out)
      replace BK243 := Ω5 (ΩC BK243.out)
      replace BK266 := Ω5 (ΩC BK266.out)
      replace BK273 := Ω5 (ΩC BK273.out)
      replace BK282 := Ω5 (ΩC BK282.out)
      replace BK289 := Ω5 (ΩC BK289.out)
      replace HB := Ω5 (Ω8 HB.out)
      refine start_ (n := 5) (S := fun w' => w'.cell? ⟨gb273, 0, none⟩ = some (.slice Ao61 t267.length co61) ∧ w'.cell? ⟨gb273, 1, none⟩ = some (.slice Ao66 t270.length co66) ∧ w'.cell? ⟨gb242, 0, none⟩ = some (.slice A0_0 l0_0.length c0_0) ∧ w'.cell? ⟨gb242, 1, none⟩ = some (.slice A0_1 l0_1.length c0_1)) (ds := []) #[false, false, false, false, false] (by kernel_rfl) rfl rfl ⟨(ΩJ BK273.out 0).trans rfl, (ΩJ BK273.out 1).trans rfl, (ΩJ BK242.out 0).trans rfl, (ΩJ BK242.out 1).trans rfl⟩ (fun hHeld => ?_)
      generalize w90.drew = w91 at HO262 HO265 HO269 HO272 HO276 HO279 HO285 HO288 BK242 BK243 BK266 BK273 BK282 BK289 HB hHeld ⊢
      refine take_ (i := 0) (N := some 40) (v := ?_) (a' := ?_) #[true, false, false, false, false] rfl rfl (by kernel_rfl) (fun _ _ _ h => h) (Or.inl ⟨by rfl, ?_⟩) hHeld ?_ ?_
      rotate_left
      ·rintro w' ⟨s0, s1, s2, s3⟩
       go_simp
       with_reducible rfl
      rotate_left
      ·simp only [Act.put, List.setIfInBounds_toArray, List.set_cons_zero, List.set_cons_succ, i64_w, i32_w]
       rfl
      refine take_ (i := 1) (N := some 41) (v := ?_) (a' := ?_) #[true, true, false, false, false] rfl rfl (by kernel_rfl) (fun _ _ _ h => h) (Or.inl ⟨by rfl, ?_⟩) hHeld ?_ ?_
      rotate_left
      ·rintro w' ⟨s0, s1, s2, s3⟩
       go_simp
       with_reducible rfl
      rotate_left
      ·simp only [Act.put, List.setIfInBounds_toArray, List.set_cons_zero, List.set_cons_succ, i64_w, i32_w]
       rfl
      refine one_ (i := 2) (N := some 42) #[true, true, true, false, false] rfl rfl (by kernel_rfl) (by decide) (fun K hK => ?_)
      refine goes_ Try.func11 (by kernel_rfl) rfl #[.agg #[.slice A0_0 l0_0.length c0_0, .slice A0_1 l0_1.length c0_1]] (by rfl) rfl rfl (by (try simp only [List.map_toArray, List.map_cons, List.map_nil]); first | done | rfl | (simp only [List.length_drop, List.length_take]; rfl)) ?_
      with_reducible refine (laws_toTensor.calls k _ _ l0_0 _ _ l0_1 t291 t294 _ ?side1 ?side2 ?side3 ?side4 A27.out).mono ?_
      (case side1 => exact (Cu ((Kd.C_below HR0_0.out HB.out))))
      (case side2 => exact HC0_0.out)
      (case side3 => exact (Cu ((Kd.C_below HR0_1.out HB.out))))
      (case side4 => exact HC0_1.out)
      rintro e w92 ⟨v292, v295, rfl, ho0, ho1, hb⟩
      refine ⟨_, rfl, ?_⟩
      have HO293 := Ω5 (Kd.R_lower (Kd.R_new' (Kd.R_new' (Kd.R_new' (Kd.R_new' (Kd.R_new' (Kd.R_new' (Kd.R_new' (Kd.R_new' ho0 (Kd.R_lt (Ru HO262.out))) (Kd.R_lt (Ru HO265.out))) (Kd.R_lt (Ru HO269.out))) (Kd.R_lt (Ru HO272.out))) (Kd.R_lt (Ru HO276.out))) (Kd.R_lt (Ru HO279.out))) (Kd.R_lt (Ru HO285.out))) (Kd.R_lt (Ru HO288.out))) (below_size (HBu HB.out)))
      have HO296 := Ω5 (Kd.R_lower (Kd.R_new' (Kd.R_new' (Kd.R_new' (Kd.R_new' (Kd.R_new' (Kd.R_new' (Kd.R_new' (Kd.R_new' ho1 (Kd.R_lt (Ru HO262.out))) (Kd.R_lt (Ru HO265.out))) (Kd.R_lt (Ru HO269.out))) (Kd.R_lt (Ru HO272.out))) (Kd.R_lt (Ru HO276.out))) (Kd.R_lt (Ru HO279.out))) (Kd.R_lt (Ru HO285.out))) (Kd.R_lt (Ru HO288.out))) (below_size (HBu HB.out)))
      replace HO262 := Ω5 (Rt2 HO262.out hb ho0 ho1)
      replace HO265 := Ω5 (Rt2 HO265.out hb ho0 ho1)
      replace HO269 := Ω5 (Rt2 HO269.out hb ho0 ho1)
      replace HO272 := Ω5 (Rt2 HO272.out hb ho0 ho1)
      replace HO276 := Ω5 (Rt2 HO276.out hb ho0 ho1)
      replace HO279 := Ω5 (Rt2 HO279.out hb ho0 ho1)
      replace HO285 := Ω5 (Rt2 HO285.out hb ho0 ho1)
      replace HO288 := Ω5 (Rt2 HO288.out hb ho0 ho1)
      replace BK242 := Ω5 (Bb BK242.out hb)
      replace BK243 := Ω5 (Bb BK243.out hb)
      replace BK266 := Ω5 (Bb BK266.out hb)
      replace BK273 := Ω5 (Bb BK273.out hb)
      replace BK282 := Ω5 (Bb BK282.out hb)
      replace BK289 := Ω5 (Bb BK289.out hb)
      replace HB := Ω5 (below_step (HBu HB.out) hb)
      (try clear hb)
      (try clear hb2)
      (try clear hk)
      (try clear hi)
      (try clear ho0)
      (try clear ho1)
      obtain ⟨Ao93, co93, eo93⟩ := Kd.R_slice HO293.out
      (first | subst eo93 | (injection eo93 with f1_ f2_ f3_; have f4_ := f1_.symm; have f5_ := f3_.symm; clear f1_ f2_ f3_; subst f4_; subst f5_))
      obtain ⟨Ao94, co94, eo94⟩ := Kd.R_slice HO296.out
      (first | subst eo94 | (injection eo94 with f1_ f2_ f3_; have f4_ := f1_.symm; have f5_ := f3_.symm; clear f1_ f2_ f3_; subst f4_; subst f5_))
      refine hK.out _ _ ⟨(ΩJ BK273.out 0).trans rfl, (ΩJ BK273.out 1).trans rfl, (ΩJ BK242.out 0).trans rfl, (ΩJ BK242.out 1).trans rfl⟩ (fun hHeld => ?_)
      clear hK K
      refine norm_ (a' := ?_) ?_ ?_
      rotate_left
      ·show Act.put _ (some 42) _ = _
       simp only [Act.put, List.setIfInBounds_toArray, List.set_cons_zero, List.set_cons_succ, i64_w, i32_w]
       rfl
      refine one_ (i := 3) (N := some 43) #[true, true, true, true, false] rfl rfl (by kernel_rfl) (by decide) (fun K hK => ?_)
      refine goes_ Try.func13 (by kernel_rfl) rfl #[.agg #[.slice Ao61 t267.length co61, .slice Ao66 t270.length co66], .agg #[.slice Ao93 t291.length co93, .slice Ao94 t294.length co94]] (by rfl) rfl rfl (by (try simp only [List.map_toArray, List.map_cons, List.map_nil]); first | done | rfl | (simp only [List.length_drop, List.length_take]; rfl)) ?_
      with_reducible refine (laws_eqTensor.calls k _ _ t267 _ _ t270 _ _ t291 _ _ t294 true _ ?side1 ?side2 ?side3 ?side4 ?side5 ?side6 ?side7 ?side8 A28.out).mono ?_
      (case side1 => exact (Cu ((Kd.R_reads' HO269.out).2.2)))
      (case side2 => exact (Kd.R_reads' HO269.out).2.1)
      (case side3 => exact (Cu ((Kd.R_reads' HO272.out).2.2)))
      (case side4 => exact (Kd.R_reads' HO272.out).2.1)
      (case side5 => exact (Cu ((Kd.R_reads' HO293.out).2.2)))
      (case side6 => exact (Kd.R_reads' HO293.out).2.1)
      (case side7 => exact (Cu ((Kd.R_reads' HO296.out).2.2)))
      (case side8 => exact (Kd.R_reads' HO296.out).2.1)
      rintro e w95 ⟨rfl, hb⟩
      refine ⟨_, rfl, ?_⟩
      replace HO262 := Ω5 (Rb HO262.out hb)
      replace HO265 := Ω5 (Rb HO265.out hb)
      replace HO269 := Ω5 (Rb HO269.out hb)
      replace HO272 := Ω5 (Rb HO272.out hb)
      replace HO276 := Ω5 (Rb HO276.out hb)
      replace HO279 := Ω5 (Rb HO279.out hb)
      replace HO285 := Ω5 (Rb HO285.out hb)
      replace HO288 := Ω5 (Rb HO288.out hb)
      replace HO293 := Ω5 (Rb HO293.out hb)
      replace HO296 := Ω5 (Rb HO296.out hb)
      replace BK242 := Ω5 (Bb BK242.out hb)
      replace BK243 := Ω5 (Bb BK243.out hb)
      replace BK266 := Ω5 (Bb BK266.out hb)
      replace BK273 := Ω5 (Bb BK273.out hb)
      replace BK282 := Ω5 (Bb BK282.out hb)
      replace BK289 := Ω5 (Bb BK289.out hb)
      replace HB := Ω5 (below_step (HBu HB.out) hb)
      (try clear hb)
      (try clear hb2)
      (try clear hk)
      (try clear hi)
      refine hK.out _ _ ⟨(ΩJ BK273.out 0).trans rfl, (ΩJ BK273.out 1).trans rfl, (ΩJ BK242.out 0).trans rfl, (ΩJ BK242.out 1).trans rfl⟩ (fun hHeld => ?_)
      clear hK K
      refine norm_ (a' := ?_) ?_ ?_
      rotate_left
      ·show Act.put _ (some 43) _ = _
       simp only [Act.put, List.setIfInBounds_toArray, List.set_cons_zero, List.set_cons_succ, i64_w, i32_w]
       rfl
      refine pure_ (i := 4) (N := some 44) (v := ?_) (a' := ?_) #[true, true, true, true, true] rfl rfl (by kernel_rfl) (fun _ _ _ h => h) (Or.inl ⟨by rfl, ?_⟩) ?_ ?_
      rotate_left
      ·intro w'
       go_simp
       with_reducible rfl
      rotate_left
      ·simp only [Act.put, List.setIfInBounds_toArray, List.set_cons_zero, List.set_cons_succ, i64_w, i32_w]
       rfl
      refine done_ (by kernel_rfl) ?_
      try go_wp2
      replace HO262 := Ω5 (Ω3 HO262.out)
      replace HO265 := Ω5 (Ω3 HO265.out)
      replace HO269 := Ω5 (Ω3 HO269.out)
      replace HO272 := Ω5 (Ω3 HO272.out)
      replace HO276 := Ω5 (Ω3 HO276.out)
      replace HO279 := Ω5 (Ω3 HO279.out)
      replace HO285 := Ω5 (Ω3 HO285.out)
      replace HO288 := Ω5 (Ω3 HO288.out)
      replace BK242 := Ω5 (ΩC BK242.out)
      replace BK243 := Ω5 (ΩC BK243.out)
      replace BK266 := Ω5 (ΩC BK266.out)
      replace BK273 := Ω5 (ΩC BK273.out)
      replace BK282 := Ω5 (ΩC BK282.out)
      replace BK289 := Ω5 (ΩC BK289.out)
      replace HB := Ω5 (Ω8 HB.out)
      refine start_ (n := 5) (S := fun w' => w'.cell? ⟨gb282, 0, none⟩ = some (.slice Ao71 t274.length co71) ∧ w'.cell? ⟨gb282, 1, none⟩ = some (.slice Ao77 t277.length co77) ∧ w'.cell? ⟨gb282, 2, none⟩ = some (.int .i64 t280) ∧ w'.cell? ⟨gb282, 3, none⟩ = some (.int .i64 t281) ∧ w'.cell? ⟨gb243, 0, none⟩ = some (.slice A1_0 l1_0.length c1_0) ∧ w'.cell? ⟨gb243, 1, none⟩ = some (.slice A1_1 l1_1.length c1_1) ∧ w'.cell? ⟨gb243, 2, none⟩ = some (.int .i64 a1_2) ∧ w'.cell? ⟨gb243, 3, none⟩ = some (.int .i64 a1_3)) (ds := []) #[false, false, false, false, false] (by kernel_rfl) rfl rfl ⟨(ΩJ BK282.out 0).trans rfl, (ΩJ BK282.out 1).trans rfl, (ΩJ BK282.out 2).trans rfl, (ΩJ BK282.out 3).trans rfl, (ΩJ BK243.out 0).trans rfl, (ΩJ BK243.out 1).trans rfl, (ΩJ BK243.out 2).trans rfl, (ΩJ BK243.out 3).trans rfl⟩ (fun hHeld => ?_)
      generalize w95.drew = w96 at HO262 HO265 HO269 HO272 HO276 HO279 HO285 HO288 BK242 BK243 BK266 BK273 BK282 BK289 HB hHeld ⊢
      refine take_ (i := 0) (N := some 45) (v := ?_) (a' := ?_) #[true, false, false, false, false] rfl rfl (by kernel_rfl) (fun _ _ _ h => h) (Or.inl ⟨by rfl, ?_⟩) hHeld ?_ ?_
      rotate_left
      ·rintro w' ⟨s0, s1, s2, s3, s4, s5, s6, s7⟩
       go_simp
       with_reducible rfl
      rotate_left
      ·simp only [Act.put, List.setIfInBounds_toArray, List.set_cons_zero, List.set_cons_succ, i64_w, i32_w]
       rfl
      refine take_ (i := 1) (N := some 46) (v := ?_) (a' := ?_) #[true, true, false, false, false] rfl rfl (by kernel_rfl) (fun _ _ _ h => h) (Or.inl ⟨by rfl, ?_⟩) hHeld ?_ ?_
      rotate_left
      ·rintro w' ⟨s0, s1, s2, s3, s4, s5, s6, s7⟩
       go_simp
       with_reducible rfl
      rotate_left
      ·simp only [Act.put, List.setIfInBounds_toArray, List.set_cons_zero, List.set_cons_succ, i64_w, i32_w]
       rfl
      refine one_ (i := 2) (N := some 47) #[true, true, true, false, false] rfl rfl (by kernel_rfl) (by decide) (fun K hK => ?_)
      refine goes_ Try.func18 (by kernel_rfl) rfl #[.agg #[.slice A1_0 l1_0.length c1_0, .slice A1_1 l1_1.length c1_1, .int .i64 a1_2, .int .i64 a1_3]] (by rfl) rfl rfl (by (try simp only [List.map_toArray, List.map_cons, List.map_nil]); first | done | rfl | (simp only [List.length_drop, List.length_take]; rfl)) ?_
      with_reducible refine (laws_toView.calls k _ _ l1_0 _ _ l1_1 a1_2 a1_3 t298 t301 t304 t305 _ ?side1 ?side2 ?side3 ?side4 A30.out).mono ?_
      (case side1 => exact (Cu ((Kd.C_below HR1_0.out HB.out))))
      (case side2 => exact HC1_0.out)
      (case side3 => exact (Cu ((Kd.C_below HR1_1.out HB.out))))
      (case side4 => exact HC1_1.out)
      rintro e w97 ⟨v299, v302, rfl, ho0, ho1, hb⟩
      refine ⟨_, rfl, ?_⟩
      have HO300 := Ω5 (Kd.R_lower (Kd.R_new' (Kd.R_new' (Kd.R_new' (Kd.R_new' (Kd.R_new' (Kd.R_new' (Kd.R_new' (Kd.R_new' ho0 (Kd.R_lt (Ru HO262.out))) (Kd.R_lt (Ru HO265.out))) (Kd.R_lt (Ru HO269.out))) (Kd.R_lt (Ru HO272.out))) (Kd.R_lt (Ru HO276.out))) (Kd.R_lt (Ru HO279.out))) (Kd.R_lt (Ru HO285.out))) (Kd.R_lt (Ru HO288.out))) (below_size (HBu HB.out)))
      have HO303 := Ω5 (Kd.R_lower (Kd.R_new' (Kd.R_new' (Kd.R_new' (Kd.R_new' (Kd.R_new' (Kd.R_new' (Kd.R_new' (Kd.R_new' ho1 (Kd.R_lt (Ru HO262.out))) (Kd.R_lt (Ru HO265.out))) (Kd.R_lt (Ru HO269.out))) (Kd.R_lt (Ru HO272.out))) (Kd.R_lt (Ru HO276.out))) (Kd.R_lt (Ru HO279.out))) (Kd.R_lt (Ru HO285.out))) (Kd.R_lt (Ru HO288.out))) (below_size (HBu HB.out)))
      replace HO262 := Ω5 (Rt2 HO262.out hb ho0 ho1)
      replace HO265 := Ω5 (Rt2 HO265.out hb ho0 ho1)
      replace HO269 := Ω5 (Rt2 HO269.out hb ho0 ho1)
      replace HO272 := Ω5 (Rt2 HO272.out hb ho0 ho1)
      replace HO276 := Ω5 (Rt2 HO276.out hb ho0 ho1)
      replace HO279 := Ω5 (Rt2 HO279.out hb ho0 ho1)
      replace HO285 := Ω5 (Rt2 HO285.out hb ho0 ho1)
      replace HO288 := Ω5 (Rt2 HO288.out hb ho0 ho1)
      replace BK242 := Ω5 (Bb BK242.out hb)
      replace BK243 := Ω5 (Bb BK243.out hb)
      replace BK266 := Ω5 (Bb BK266.out hb)
      replace BK273 := Ω5 (Bb BK273.out hb)
      replace BK282 := Ω5 (Bb BK282.out hb)
      replace BK289 := Ω5 (Bb BK289.out hb)
      replace HB := Ω5 (below_step (HBu HB.out) hb)
      (try clear hb)
      (try clear hb2)
      (try clear hk)
      (try clear hi)
      (try clear ho0)
      (try clear ho1)
      obtain ⟨Ao98, co98, eo98⟩ := Kd.R_slice HO300.out
      (first | subst eo98 | (injection eo98 with f1_ f2_ f3_; have f4_ := f1_.symm; have f5_ := f3_.symm; clear f1_ f2_ f3_; subst f4_; subst f5_))
      obtain ⟨Ao99, co99, eo99⟩ := Kd.R_slice HO303.out
      (first | subst eo99 | (injection eo99 with f1_ f2_ f3_; have f4_ := f1_.symm; have f5_ := f3_.symm; clear f1_ f2_ f3_; subst f4_; subst f5_))
      refine hK.out _ _ ⟨(ΩJ BK282.out 0).trans rfl, (ΩJ BK282.out 1).trans rfl, (ΩJ BK282.out 2).trans rfl, (ΩJ BK282.out 3).trans rfl, (ΩJ BK243.out 0).trans rfl, (ΩJ BK243.out 1).trans rfl, (ΩJ BK243.out 2).trans rfl, (ΩJ BK243.out 3).trans rfl⟩ (fun hHeld => ?_)
      clear hK K
      refine norm_ (a' := ?_) ?_ ?_
      rotate_left
      ·show Act.put _ (some 47) _ = _
       simp only [Act.put, List.setIfInBounds_toArray, List.set_cons_zero, List.set_cons_succ, i64_w, i32_w]
       rfl
      refine one_ (i := 3) (N := some 48) #[true, true, true, true, false] rfl rfl (by kernel_rfl) (by decide) (fun K hK => ?_)
      refine goes_ Try.func20 (by kernel_rfl) rfl #[.agg #[.slice Ao71 t274.length co71, .slice Ao77 t277.length co77, .int .i64 t280, .int .i64 t281], .agg #[.slice Ao98 t298.length co98, .slice Ao99 t301.length co99, .int .i64 t304, .int .i64 t305]] (by rfl) rfl rfl (by (try simp only [List.map_toArray, List.map_cons, List.map_nil]); first | done | rfl | (simp only [List.length_drop, List.length_take]; rfl)) ?_
      with_reducible refine (laws_eqView.calls k _ _ t274 _ _ t277 t280 t281 _ _ t298 _ _ t301 t304 t305 true _ ?side1 ?side2 ?side3 ?side4 ?side5 ?side6 ?side7 ?side8 A31.out).mono ?_
      (case side1 => exact (Cu ((Kd.R_reads' HO276.out).2.2)))
      (case side2 => exact (Kd.R_reads' HO276.out).2.1)
      (case side3 => exact (Cu ((Kd.R_reads' HO279.out).2.2)))
      (case side4 => exact (Kd.R_reads' HO279.out).2.1)
      (case side5 => exact (Cu ((Kd.R_reads' HO300.out).2.2)))
      (case side6 => exact (Kd.R_reads' HO300.out).2.1)
      (case side7 => exact (Cu ((Kd.R_reads' HO303.out).2.2)))
      (case side8 => exact (Kd.R_reads' HO303.out).2.1)
      rintro e w100 ⟨rfl, hb⟩
      refine ⟨_, rfl, ?_⟩
      replace HO262 := Ω5 (Rb HO262.out hb)
      replace HO265 := Ω5 (Rb HO265.out hb)
      replace HO269 := Ω5 (Rb HO269.out hb)
      replace HO272 := Ω5 (Rb HO272.out hb)
      replace HO276 := Ω5 (Rb HO276.out hb)
      replace HO279 := Ω5 (Rb HO279.out hb)
      replace HO285 := Ω5 (Rb HO285.out hb)
      replace HO288 := Ω5 (Rb HO288.out hb)
      replace HO300 := Ω5 (Rb HO300.out hb)
      replace HO303 := Ω5 (Rb HO303.out hb)
      replace BK242 := Ω5 (Bb BK242.out hb)
      replace BK243 := Ω5 (Bb BK243.out hb)
      replace BK266 := Ω5 (Bb BK266.out hb)
      replace BK273 := Ω5 (Bb BK273.out hb)
      replace BK282 := Ω5 (Bb BK282.out hb)
      replace BK289 := Ω5 (Bb BK289.out hb)
      replace HB := Ω5 (below_step (HBu HB.out) hb)
      (try clear hb)
      (try clear hb2)
      (try clear hk)
      (try clear hi)
      refine hK.out _ _ ⟨(ΩJ BK282.out 0).trans rfl, (ΩJ BK282.out 1).trans rfl, (ΩJ BK282.out 2).trans rfl, (ΩJ BK282.out 3).trans rfl, (ΩJ BK243.out 0).trans rfl, (ΩJ BK243.out 1).trans rfl, (ΩJ BK243.out 2).trans rfl, (ΩJ BK243.out 3).trans rfl⟩ (fun hHeld => ?_)
      clear hK K
      refine norm_ (a' := ?_) ?_ ?_
      rotate_left
      ·show Act.put _ (some 48) _ = _
       simp only [Act.put, List.setIfInBounds_toArray, List.set_cons_zero, List.set_cons_succ, i64_w, i32_w]
       rfl
      refine pure_ (i := 4) (N := some 49) (v := ?_) (a' := ?_) #[true, true, true, true, true] rfl rfl (by kernel_rfl) (fun _ _ _ h => h) (Or.inl ⟨by rfl, ?_⟩) ?_ ?_
      rotate_left
      ·intro w'
       go_simp
       with_reducible rfl
      rotate_left
      ·simp only [Act.put, List.setIfInBounds_toArray, List.set_cons_zero, List.set_cons_succ, i64_w, i32_w]
       rfl
      refine done_ (by kernel_rfl) ?_
      have hcz101_0 : w100.cell? ⟨gb273, 0, none⟩ = some (.slice Ao61 t267.length co61) := (ΩJ BK273.out 0).trans rfl
      have hcz101_1 : w100.cell? ⟨gb273, 1, none⟩ = some (.slice Ao66 t270.length co66) := (ΩJ BK273.out 1).trans rfl
      have hfz101_0 := ΩF BK273.out 0
      have hfz101_1 := ΩF BK273.out 1
      go_upto_region 21 with (first | ((with_reducible refine gate_callee (f := 14) rfl ?_); refine goesL_ (some 52) rfl rfl Try.func14 (by kernel_rfl) rfl #[.agg #[.slice Ao61 t267.length co61, .slice Ao66 t270.length co66], .int .i64 1] rfl (by (try simp only [List.map_toArray, List.map_cons, List.map_nil]); first | done | rfl | (simp only [List.length_drop, List.length_take]; rfl)) ?_; (with_reducible refine (laws_markTensor.calls k (fun k_ => some k_ = (.slice Ao61 t267.length co61 : Value).ownBlock) (.slice Ao61 t267.length co61) t267 (fun k_ => some k_ = (.slice Ao66 t270.length co66 : Value).ownBlock) (.slice Ao66 t270.length co66) t270 1 t307 t308 t309 w _ ?side1 ?side2 ?side3 ?side4 ?side5 A33.out).mono ?_); (case side1 => exact HBu HB.out); (case side2 => exact Kd.R_tight rfl HO269.out); (case side3 => exact fun k_ e_ => (HO269.out.1 k_ e_.symm).1.1.1.1.1.1.1.1.1.1.1.1.1.1); (case side4 => exact Kd.R_tight rfl HO272.out); (case side5 => exact fun k_ e_ => (HO272.out.1 k_ e_.symm).1.1.1.1.1.1.1.1.1.1.1.1.1.1); rintro e w102 ⟨rfl, hy0, hy1, hb, hkp⟩; refine ⟨_, rfl, ?_⟩; replace BK242 := Ω5 (blk_kept (Bu BK242.out) hkp (fun hs_ => Or.elim hs_ (fun e_ => (fun e_ => (Kd.R_ne HO269.out BK242.out (by decide)) e_) e_) (fun e_ => (fun e_ => (Kd.R_ne HO272.out BK242.out (by decide)) e_) e_))); replace BK243 := Ω5 (blk_kept (Bu BK243.out) hkp (fun hs_ => Or.elim hs_ (fun e_ => (fun e_ => (Kd.R_ne HO269.out BK243.out (by decide)) e_) e_) (fun e_ => (fun e_ => (Kd.R_ne HO272.out BK243.out (by decide)) e_) e_))); replace HO262 := Ω5 (ΩE (ok' := fun k_ => some k_ ≠ (.slice Ao55 t263.length co55 : Value).ownBlock ∧ some k_ ≠ (.slice Ao61 t267.length co61 : Value).ownBlock ∧ some k_ ≠ (.slice Ao66 t270.length co66 : Value).ownBlock ∧ some k_ ≠ (.slice Ao71 t274.length co71 : Value).ownBlock ∧ some k_ ≠ (.slice Ao77 t277.length co77 : Value).ownBlock ∧ some k_ ≠ (.slice Ao81 t283.length co81 : Value).ownBlock ∧ some k_ ≠ (.slice Ao88 t286.length co88 : Value).ownBlock ∧ some k_ ≠ (.slice Ao98 t298.length co98 : Value).ownBlock ∧ some k_ ≠ (.slice Ao99 t301.length co99 : Value).ownBlock) (ΩK (HO262.out) hkp (fun k_ hk_ hs_ => Or.elim hs_ (fun e_ => (hk_.1.1.1.1.1.1.1.1.1.2) e_) (fun e_ => (hk_.1.1.1.1.1.1.1.1.2) e_))) (fun k_ hk_ => ⟨hk_.1.1.1.1.1.1.1.1.1.1.1.2.2.2.2, hk_.1.1.1.1.1.1.1.1.1.1.2, hk_.1.1.1.1.1.1.1.1.1.2, hk_.1.1.1.1.1.1.1.1.2, hk_.1.1.1.1.1.1.1.2, hk_.1.1.1.1.1.1.2, hk_.1.1.1.1.1.2, hk_.1.1.2, hk_.1.2⟩)); replace HO265 := Ω5 (ΩE (ok' := fun k_ => some k_ ≠ (.slice Ao53 t260.length co53 : Value).ownBlock ∧ some k_ ≠ (.slice Ao61 t267.length co61 : Value).ownBlock ∧ some k_ ≠ (.slice Ao66 t270.length co66 : Value).ownBlock ∧ some k_ ≠ (.slice Ao71 t274.length co71 : Value).ownBlock ∧ some k_ ≠ (.slice Ao77 t277.length co77 : Value).ownBlock ∧ some k_ ≠ (.slice Ao81 t283.length co81 : Value).ownBlock ∧ some k_ ≠ (.slice Ao88 t286.length co88 : Value).ownBlock ∧ some k_ ≠ (.slice Ao98 t298.length co98 : Value).ownBlock ∧ some k_ ≠ (.slice Ao99 t301.length co99 : Value).ownBlock) (ΩK (HO265.out) hkp (fun k_ hk_ hs_ => Or.elim hs_ (fun e_ => (hk_.1.1.1.1.1.1.1.1.1.2) e_) (fun e_ => (hk_.1.1.1.1.1.1.1.1.2) e_))) (fun k_ hk_ => ⟨hk_.1.1.1.1.1.1.1.1.1.1.1.2.2.2.2, hk_.1.1.1.1.1.1.1.1.1.1.2, hk_.1.1.1.1.1.1.1.1.1.2, hk_.1.1.1.1.1.1.1.1.2, hk_.1.1.1.1.1.1.1.2, hk_.1.1.1.1.1.1.2, hk_.1.1.1.1.1.2, hk_.1.1.2, hk_.1.2⟩)); replace BK266 := Ω5 (blk_kept (Bu BK266.out) hkp (fun hs_ => Or.elim hs_ (fun e_ => (fun e_ => (Kd.R_ne HO269.out BK266.out (by decide)) e_) e_) (fun e_ => (fun e_ => (Kd.R_ne HO272.out BK266.out (by decide)) e_) e_))); replace BK273 := Ω5 (blk_kept (Bu BK273.out) hkp (fun hs_ => Or.elim hs_ (fun e_ => (fun e_ => (Kd.R_ne HO269.out BK273.out (by decide)) e_) e_) (fun e_ => (fun e_ => (Kd.R_ne HO272.out BK273.out (by decide)) e_) e_))); replace HO276 := Ω5 (ΩE (ok' := fun k_ => some k_ ≠ (.slice Ao53 t260.length co53 : Value).ownBlock ∧ some k_ ≠ (.slice Ao55 t263.length co55 : Value).ownBlock ∧ some k_ ≠ (.slice Ao61 t267.length co61 : Value).ownBlock ∧ some k_ ≠ (.slice Ao66 t270.length co66 : Value).ownBlock ∧ some k_ ≠ (.slice Ao77 t277.length co77 : Value).ownBlock ∧ some k_ ≠ (.slice Ao81 t283.length co81 : Value).ownBlock ∧ some k_ ≠ (.slice Ao88 t286.length co88 : Value).ownBlock ∧ some k_ ≠ (.slice Ao98 t298.length co98 : Value).ownBlock ∧ some k_ ≠ (.slice Ao99 t301.length co99 : Value).ownBlock) (ΩK (HO276.out) hkp (fun k_ hk_ hs_ => Or.elim hs_ (fun e_ => (hk_.1.1.1.1.1.1.1.2) e_) (fun e_ => (hk_.1.1.1.1.1.1.2) e_))) (fun k_ hk_ => ⟨hk_.1.1.1.1.1.1.1.1.1.1.2, hk_.1.1.1.1.1.1.1.1.1.2, hk_.1.1.1.1.1.1.1.1.2, hk_.1.1.1.1.1.1.1.2, hk_.1.1.1.1.1.1.1.1.1.1.1.1.1.1.1, hk_.1.1.1.1.1.1.2, hk_.1.1.1.1.1.2, hk_.1.1.2, hk_.1.2⟩)); replace HO279 := Ω5 (ΩE (ok' := fun k_ => some k_ ≠ (.slice Ao53 t260.length co53 : Value).ownBlock ∧ some k_ ≠ (.slice Ao55 t263.length co55 : Value).ownBlock ∧ some k_ ≠ (.slice Ao61 t267.length co61 : Value).ownBlock ∧ some k_ ≠ (.slice Ao66 t270.length co66 : Value).ownBlock ∧ some k_ ≠ (.slice Ao71 t274.length co71 : Value).ownBlock ∧ some k_ ≠ (.slice Ao81 t283.length co81 : Value).ownBlock ∧ some k_ ≠ (.slice Ao88 t286.length co88 : Value).ownBlock ∧ some k_ ≠ (.slice Ao98 t298.length co98 : Value).ownBlock ∧ some k_ ≠ (.slice Ao99 t301.length co99 : Value).ownBlock) (ΩK (HO279.out) hkp (fun k_ hk_ hs_ => Or.elim hs_ (fun e_ => (hk_.1.1.1.1.1.1.1.2) e_) (fun e_ => (hk_.1.1.1.1.1.1.2) e_))) (fun k_ hk_ => ⟨hk_.1.1.1.1.1.1.1.1.1.1.2, hk_.1.1.1.1.1.1.1.1.1.2, hk_.1.1.1.1.1.1.1.1.2, hk_.1.1.1.1.1.1.1.2, hk_.1.1.1.1.1.1.1.1.1.1.1.1.1.1.1, hk_.1.1.1.1.1.1.2, hk_.1.1.1.1.1.2, hk_.1.1.2, hk_.1.2⟩)); replace BK282 := Ω5 (blk_kept (Bu BK282.out) hkp (fun hs_ => Or.elim hs_ (fun e_ => (fun e_ => (Kd.R_ne HO269.out BK282.out (by decide)) e_) e_) (fun e_ => (fun e_ => (Kd.R_ne HO272.out BK282.out (by decide)) e_) e_))); replace HO285 := Ω5 (ΩE (ok' := fun k_ => some k_ ≠ (.slice Ao53 t260.length co53 : Value).ownBlock ∧ some k_ ≠ (.slice Ao55 t263.length co55 : Value).ownBlock ∧ some k_ ≠ (.slice Ao61 t267.length co61 : Value).ownBlock ∧ some k_ ≠ (.slice Ao66 t270.length co66 : Value).ownBlock ∧ some k_ ≠ (.slice Ao71 t274.length co71 : Value).ownBlock ∧ some k_ ≠ (.slice Ao77 t277.length co77 : Value).ownBlock ∧ some k_ ≠ (.slice Ao88 t286.length co88 : Value).ownBlock ∧ some k_ ≠ (.slice Ao98 t298.length co98 : Value).ownBlock ∧ some k_ ≠ (.slice Ao99 t301.length co99 : Value).ownBlock) (ΩK (HO285.out) hkp (fun k_ hk_ hs_ => Or.elim hs_ (fun e_ => (hk_.1.1.1.1.1.1.1.2) e_) (fun e_ => (hk_.1.1.1.1.1.1.2) e_))) (fun k_ hk_ => ⟨hk_.1.1.1.1.1.1.1.1.1.1.2, hk_.1.1.1.1.1.1.1.1.1.2, hk_.1.1.1.1.1.1.1.1.2, hk_.1.1.1.1.1.1.1.2, hk_.1.1.1.1.1.1.2, hk_.1.1.1.1.1.2, hk_.1.1.1.1.1.1.1.1.1.1.1.1.1.1.1, hk_.1.1.2, hk_.1.2⟩)); replace HO288 := Ω5 (ΩE (ok' := fun k_ => some k_ ≠ (.slice Ao53 t260.length co53 : Value).ownBlock ∧ some k_ ≠ (.slice Ao55 t263.length co55 : Value).ownBlock ∧ some k_ ≠ (.slice Ao61 t267.length co61 : Value).ownBlock ∧ some k_ ≠ (.slice Ao66 t270.length co66 : Value).ownBlock ∧ some k_ ≠ (.slice Ao71 t274.length co71 : Value).ownBlock ∧ some k_ ≠ (.slice Ao77 t277.length co77 : Value).ownBlock ∧ some k_ ≠ (.slice Ao81 t283.length co81 : Value).ownBlock ∧ some k_ ≠ (.slice Ao98 t298.length co98 : Value).ownBlock ∧ some k_ ≠ (.slice Ao99 t301.length co99 : Value).ownBlock) (ΩK (HO288.out) hkp (fun k_ hk_ hs_ => Or.elim hs_ (fun e_ => (hk_.1.1.1.1.1.1.1.2) e_) (fun e_ => (hk_.1.1.1.1.1.1.2) e_))) (fun k_ hk_ => ⟨hk_.1.1.1.1.1.1.1.1.1.1.2, hk_.1.1.1.1.1.1.1.1.1.2, hk_.1.1.1.1.1.1.1.1.2, hk_.1.1.1.1.1.1.1.2, hk_.1.1.1.1.1.1.2, hk_.1.1.1.1.1.2, hk_.1.1.1.1.1.1.1.1.1.1.1.1.1.1.1, hk_.1.1.2, hk_.1.2⟩)); replace BK289 := Ω5 (blk_kept (Bu BK289.out) hkp (fun hs_ => Or.elim hs_ (fun e_ => (fun e_ => (Kd.R_ne HO269.out BK289.out (by decide)) e_) e_) (fun e_ => (fun e_ => (Kd.R_ne HO272.out BK289.out (by decide)) e_) e_))); replace HO269 := Ω5 (Kd.R_reok rfl hy0 (fun k_ e_ => HO269.out.1 k_ e_)); replace HO272 := Ω5 (Kd.R_reok rfl hy1 (fun k_ e_ => HO272.out.1 k_ e_)); replace HO300 := Ω5 (ΩE (ok' := fun k_ => some k_ ≠ (.slice Ao53 t260.length co53 : Value).ownBlock ∧ some k_ ≠ (.slice Ao55 t263.length co55 : Value).ownBlock ∧ some k_ ≠ (.slice Ao61 t267.length co61 : Value).ownBlock ∧ some k_ ≠ (.slice Ao66 t270.length co66 : Value).ownBlock ∧ some k_ ≠ (.slice Ao71 t274.length co71 : Value).ownBlock ∧ some k_ ≠ (.slice Ao77 t277.length co77 : Value).ownBlock ∧ some k_ ≠ (.slice Ao81 t283.length co81 : Value).ownBlock ∧ some k_ ≠ (.slice Ao88 t286.length co88 : Value).ownBlock ∧ some k_ ≠ (.slice Ao99 t301.length co99 : Value).ownBlock) (ΩK (HO300.out) hkp (fun k_ hk_ hs_ => Or.elim hs_ (fun e_ => (hk_.1.1.1.1.1.2) e_) (fun e_ => (hk_.1.1.1.1.2) e_))) (fun k_ hk_ => ⟨hk_.1.1.1.1.1.1.1.1.2, hk_.1.1.1.1.1.1.1.2, hk_.1.1.1.1.1.1.2, hk_.1.1.1.1.1.2, hk_.1.1.1.1.2, hk_.1.1.1.2, hk_.1.1.2, hk_.1.2, hk_.1.1.1.1.1.1.1.1.1⟩)); replace HO303 := Ω5 (ΩE (ok' := fun k_ => some k_ ≠ (.slice Ao53 t260.length co53 : Value).ownBlock ∧ some k_ ≠ (.slice Ao55 t263.length co55 : Value).ownBlock ∧ some k_ ≠ (.slice Ao61 t267.length co61 : Value).ownBlock ∧ some k_ ≠ (.slice Ao66 t270.length co66 : Value).ownBlock ∧ some k_ ≠ (.slice Ao71 t274.length co71 : Value).ownBlock ∧ some k_ ≠ (.slice Ao77 t277.length co77 : Value).ownBlock ∧ some k_ ≠ (.slice Ao81 t283.length co81 : Value).ownBlock ∧ some k_ ≠ (.slice Ao88 t286.length co88 : Value).ownBlock ∧ some k_ ≠ (.slice Ao98 t298.length co98 : Value).ownBlock) (ΩK (HO303.out) hkp (fun k_ hk_ hs_ => Or.elim hs_ (fun e_ => (hk_.1.1.1.1.1.2) e_) (fun e_ => (hk_.1.1.1.1.2) e_))) (fun k_ hk_ => ⟨hk_.1.1.1.1.1.1.1.1.2, hk_.1.1.1.1.1.1.1.2, hk_.1.1.1.1.1.1.2, hk_.1.1.1.1.1.2, hk_.1.1.1.1.2, hk_.1.1.1.2, hk_.1.1.2, hk_.1.2, hk_.1.1.1.1.1.1.1.1.1⟩)); replace HB := Ω5 (hb); (try clear hb); (try clear hkp); (try clear hy0); (try clear hy1); have hcz103_0 : w102.cell? ⟨gb282, 0, none⟩ = some (.slice Ao71 t274.length co71) := (ΩJ BK282.out 0).trans rfl; have hcz103_1 : w102.cell? ⟨gb282, 1, none⟩ = some (.slice Ao77 t277.length co77) := (ΩJ BK282.out 1).trans rfl; have hcz103_2 : w102.cell? ⟨gb282, 2, none⟩ = some (.int .i64 t280) := (ΩJ BK282.out 2).trans rfl; have hcz103_3 : w102.cell? ⟨gb282, 3, none⟩ = some (.int .i64 t281) := (ΩJ BK282.out 3).trans rfl; have hfz103_0 := ΩF BK282.out 0; have hfz103_1 := ΩF BK282.out 1; have hfz103_2 := ΩF BK282.out 2; have hfz103_3 := ΩF BK282.out 3) | ((with_reducible refine gate_callee (f := 21) rfl ?_); refine goesL_ (some 55) rfl rfl Try.func21 (by kernel_rfl) rfl #[.agg #[.slice Ao71 t274.length co71, .slice Ao77 t277.length co77, .int .i64 t280, .int .i64 t281], .int .i64 t307] rfl (by (try simp only [List.map_toArray, List.map_cons, List.map_nil]); first | done | rfl | (simp only [List.length_drop, List.length_take]; rfl)) ?_; (with_reducible refine (laws_markView.calls k (fun k_ => some k_ = (.slice Ao71 t274.length co71 : Value).ownBlock) (.slice Ao71 t274.length co71) t274 (fun k_ => some k_ = (.slice Ao77 t277.length co77 : Value).ownBlock) (.slice Ao77 t277.length co77) t277 t280 t281 t307 t310 t311 t312 w _ ?side1 ?side2 ?side3 ?side4 ?side5 A34.out).mono ?_); (case side1 => exact HBu HB.out); (case side2 => exact Kd.R_tight rfl HO276.out); (case side3 => exact fun k_ e_ => (HO276.out.1 k_ e_.symm).2.2.2.2.1); (case side4 => exact Kd.R_tight rfl HO279.out); (case side5 => exact fun k_ e_ => (HO279.out.1 k_ e_.symm).2.2.2.2.1); rintro e w104 ⟨rfl, hy0, hy1, hb, hkp⟩; refine ⟨_, rfl, ?_⟩; replace BK242 := Ω5 (blk_kept (Bu BK242.out) hkp (fun hs_ => Or.elim hs_ (fun e_ => (fun e_ => (Kd.R_ne HO276.out BK242.out (by decide)) e_) e_) (fun e_ => (fun e_ => (Kd.R_ne HO279.out BK242.out (by decide)) e_) e_))); replace BK243 := Ω5 (blk_kept (Bu BK243.out) hkp (fun hs_ => Or.elim hs_ (fun e_ => (fun e_ => (Kd.R_ne HO276.out BK243.out (by decide)) e_) e_) (fun e_ => (fun e_ => (Kd.R_ne HO279.out BK243.out (by decide)) e_) e_))); replace HO262 := Ω5 (ΩE (ok' := fun k_ => some k_ ≠ (.slice Ao55 t263.length co55 : Value).ownBlock ∧ some k_ ≠ (.slice Ao61 t267.length co61 : Value).ownBlock ∧ some k_ ≠ (.slice Ao66 t270.length co66 : Value).ownBlock ∧ some k_ ≠ (.slice Ao71 t274.length co71 : Value).ownBlock ∧ some k_ ≠ (.slice Ao77 t277.length co77 : Value).ownBlock ∧ some k_ ≠ (.slice Ao81 t283.length co81 : Value).ownBlock ∧ some k_ ≠ (.slice Ao88 t286.length co88 : Value).ownBlock ∧ some k_ ≠ (.slice Ao98 t298.length co98 : Value).ownBlock ∧ some k_ ≠ (.slice Ao99 t301.length co99 : Value).ownBlock) (ΩK (HO262.out) hkp (fun k_ hk_ hs_ => Or.elim hs_ (fun e_ => (hk_.2.2.2.1) e_) (fun e_ => (hk_.2.2.2.2.1) e_))) (fun k_ hk_ => ⟨hk_.1.1, hk_.1.2.1, hk_.1.2.2.1, hk_.1.2.2.2.1, hk_.1.2.2.2.2.1, hk_.1.2.2.2.2.2.1, hk_.1.2.2.2.2.2.2.1, hk_.1.2.2.2.2.2.2.2.1, hk_.1.2.2.2.2.2.2.2.2⟩)); replace HO265 := Ω5 (ΩE (ok' := fun k_ => some k_ ≠ (.slice Ao53 t260.length co53 : Value).ownBlock ∧ some k_ ≠ (.slice Ao61 t267.length co61 : Value).ownBlock ∧ some k_ ≠ (.slice Ao66 t270.length co66 : Value).ownBlock ∧ some k_ ≠ (.slice Ao71 t274.length co71 : Value).ownBlock ∧ some k_ ≠ (.slice Ao77 t277.length co77 : Value).ownBlock ∧ some k_ ≠ (.slice Ao81 t283.length co81 : Value).ownBlock ∧ some k_ ≠ (.slice Ao88 t286.length co88 : Value).ownBlock ∧ some k_ ≠ (.slice Ao98 t298.length co98 : Value).ownBlock ∧ some k_ ≠ (.slice Ao99 t301.length co99 : Value).ownBlock) (ΩK (HO265.out) hkp (fun k_ hk_ hs_ => Or.elim hs_ (fun e_ => (hk_.2.2.2.1) e_) (fun e_ => (hk_.2.2.2.2.1) e_))) (fun k_ hk_ => ⟨hk_.1.1, hk_.1.2.1, hk_.1.2.2.1, hk_.1.2.2.2.1, hk_.1.2.2.2.2.1, hk_.1.2.2.2.2.2.1, hk_.1.2.2.2.2.2.2.1, hk_.1.2.2.2.2.2.2.2.1, hk_.1.2.2.2.2.2.2.2.2⟩)); replace BK266 := Ω5 (blk_kept (Bu BK266.out) hkp (fun hs_ => Or.elim hs_ (fun e_ => (fun e_ => (Kd.R_ne HO276.out BK266.out (by decide)) e_) e_) (fun e_ => (fun e_ => (Kd.R_ne HO279.out BK266.out (by decide)) e_) e_))); replace HO269 := Ω5 (ΩE (ok' := fun k_ => some k_ ≠ (.slice Ao53 t260.length co53 : Value).ownBlock ∧ some k_ ≠ (.slice Ao55 t263.length co55 : Value).ownBlock ∧ some k_ ≠ (.slice Ao66 t270.length co66 : Value).ownBlock ∧ some k_ ≠ (.slice Ao71 t274.length co71 : Value).ownBlock ∧ some k_ ≠ (.slice Ao77 t277.length co77 : Value).ownBlock ∧ some k_ ≠ (.slice Ao81 t283.length co81 : Value).ownBlock ∧ some k_ ≠ (.slice Ao88 t286.length co88 : Value).ownBlock ∧ some k_ ≠ (.slice Ao98 t298.length co98 : Value).ownBlock ∧ some k_ ≠ (.slice Ao99 t301.length co99 : Value).ownBlock) (ΩK (HO269.out) hkp (fun k_ hk_ hs_ => Or.elim hs_ (fun e_ => (hk_.1.1.1.1.1.1.1.2) e_) (fun e_ => (hk_.1.1.1.1.1.1.2) e_))) (fun k_ hk_ => ⟨hk_.1.1.1.1.1.1.1.1.1.1.2, hk_.1.1.1.1.1.1.1.1.1.2, hk_.1.1.1.1.1.1.1.1.1.1.1.1.1.1.1, hk_.1.1.1.1.1.1.1.1.2, hk_.1.1.1.1.1.1.1.2, hk_.1.1.1.1.1.1.2, hk_.1.1.1.1.1.2, hk_.1.1.2, hk_.1.2⟩)); replace HO272 := Ω5 (ΩE (ok' := fun k_ => some k_ ≠ (.slice Ao53 t260.length co53 : Value).ownBlock ∧ some k_ ≠ (.slice Ao55 t263.length co55 : Value).ownBlock ∧ some k_ ≠ (.slice Ao61 t267.length co61 : Value).ownBlock ∧ some k_ ≠ (.slice Ao71 t274.length co71 : Value).ownBlock ∧ some k_ ≠ (.slice Ao77 t277.length co77 : Value).ownBlock ∧ some k_ ≠ (.slice Ao81 t283.length co81 : Value).ownBlock ∧ some k_ ≠ (.slice Ao88 t286.length co88 : Value).ownBlock ∧ some k_ ≠ (.slice Ao98 t298.length co98 : Value).ownBlock ∧ some k_ ≠ (.slice Ao99 t301.length co99 : Value).ownBlock) (ΩK (HO272.out) hkp (fun k_ hk_ hs_ => Or.elim hs_ (fun e_ => (hk_.1.1.1.1.1.1.1.2) e_) (fun e_ => (hk_.1.1.1.1.1.1.2) e_))) (fun k_ hk_ => ⟨hk_.1.1.1.1.1.1.1.1.1.1.2, hk_.1.1.1.1.1.1.1.1.1.2, hk_.1.1.1.1.1.1.1.1.1.1.1.1.1.1.1, hk_.1.1.1.1.1.1.1.1.2, hk_.1.1.1.1.1.1.1.2, hk_.1.1.1.1.1.1.2, hk_.1.1.1.1.1.2, hk_.1.1.2, hk_.1.2⟩)); replace BK273 := Ω5 (blk_kept (Bu BK273.out) hkp (fun hs_ => Or.elim hs_ (fun e_ => (fun e_ => (Kd.R_ne HO276.out BK273.out (by decide)) e_) e_) (fun e_ => (fun e_ => (Kd.R_ne HO279.out BK273.out (by decide)) e_) e_))); replace BK282 := Ω5 (blk_kept (Bu BK282.out) hkp (fun hs_ => Or.elim hs_ (fun e_ => (fun e_ => (Kd.R_ne HO276.out BK282.out (by decide)) e_) e_) (fun e_ => (fun e_ => (Kd.R_ne HO279.out BK282.out (by decide)) e_) e_))); replace HO285 := Ω5 (ΩE (ok' := fun k_ => some k_ ≠ (.slice Ao53 t260.length co53 : Value).ownBlock ∧ some k_ ≠ (.slice Ao55 t263.length co55 : Value).ownBlock ∧ some k_ ≠ (.slice Ao61 t267.length co61 : Value).ownBlock ∧ some k_ ≠ (.slice Ao66 t270.length co66 : Value).ownBlock ∧ some k_ ≠ (.slice Ao71 t274.length co71 : Value).ownBlock ∧ some k_ ≠ (.slice Ao77 t277.length co77 : Value).ownBlock ∧ some k_ ≠ (.slice Ao88 t286.length co88 : Value).ownBlock ∧ some k_ ≠ (.slice Ao98 t298.length co98 : Value).ownBlock ∧ some k_ ≠ (.slice Ao99 t301.length co99 : Value).ownBlock) (ΩK (HO285.out) hkp (fun k_ hk_ hs_ => Or.elim hs_ (fun e_ => (hk_.2.2.2.2.1) e_) (fun e_ => (hk_.2.2.2.2.2.1) e_))) (fun k_ hk_ => ⟨hk_.1.1, hk_.1.2.1, hk_.1.2.2.1, hk_.1.2.2.2.1, hk_.1.2.2.2.2.1, hk_.1.2.2.2.2.2.1, hk_.1.2.2.2.2.2.2.1, hk_.1.2.2.2.2.2.2.2.1, hk_.1.2.2.2.2.2.2.2.2⟩)); replace HO288 := Ω5 (ΩE (ok' := fun k_ => some k_ ≠ (.slice Ao53 t260.length co53 : Value).ownBlock ∧ some k_ ≠ (.slice Ao55 t263.length co55 : Value).ownBlock ∧ some k_ ≠ (.slice Ao61 t267.length co61 : Value).ownBlock ∧ some k_ ≠ (.slice Ao66 t270.length co66 : Value).ownBlock ∧ some k_ ≠ (.slice Ao71 t274.length co71 : Value).ownBlock ∧ some k_ ≠ (.slice Ao77 t277.length co77 : Value).ownBlock ∧ some k_ ≠ (.slice Ao81 t283.length co81 : Value).ownBlock ∧ some k_ ≠ (.slice Ao98 t298.length co98 : Value).ownBlock ∧ some k_ ≠ (.slice Ao99 t301.length co99 : Value).ownBlock) (ΩK (HO288.out) hkp (fun k_ hk_ hs_ => Or.elim hs_ (fun e_ => (hk_.2.2.2.2.1) e_) (fun e_ => (hk_.2.2.2.2.2.1) e_))) (fun k_ hk_ => ⟨hk_.1.1, hk_.1.2.1, hk_.1.2.2.1, hk_.1.2.2.2.1, hk_.1.2.2.2.2.1, hk_.1.2.2.2.2.2.1, hk_.1.2.2.2.2.2.2.1, hk_.1.2.2.2.2.2.2.2.1, hk_.1.2.2.2.2.2.2.2.2⟩)); replace BK289 := Ω5 (blk_kept (Bu BK289.out) hkp (fun hs_ => Or.elim hs_ (fun e_ => (fun e_ => (Kd.R_ne HO276.out BK289.out (by decide)) e_) e_) (fun e_ => (fun e_ => (Kd.R_ne HO279.out BK289.out (by decide)) e_) e_))); replace HO276 := Ω5 (Kd.R_reok rfl hy0 (fun k_ e_ => HO276.out.1 k_ e_)); replace HO279 := Ω5 (Kd.R_reok rfl hy1 (fun k_ e_ => HO279.out.1 k_ e_)); replace HO300 := Ω5 (ΩE (ok' := fun k_ => some k_ ≠ (.slice Ao53 t260.length co53 : Value).ownBlock ∧ some k_ ≠ (.slice Ao55 t263.length co55 : Value).ownBlock ∧ some k_ ≠ (.slice Ao61 t267.length co61 : Value).ownBlock ∧ some k_ ≠ (.slice Ao66 t270.length co66 : Value).ownBlock ∧ some k_ ≠ (.slice Ao71 t274.length co71 : Value).ownBlock ∧ some k_ ≠ (.slice Ao77 t277.length co77 : Value).ownBlock ∧ some k_ ≠ (.slice Ao81 t283.length co81 : Value).ownBlock ∧ some k_ ≠ (.slice Ao88 t286.length co88 : Value).ownBlock ∧ some k_ ≠ (.slice Ao99 t301.length co99 : Value).ownBlock) (ΩK (HO300.out) hkp (fun k_ hk_ hs_ => Or.elim hs_ (fun e_ => (hk_.2.2.2.2.1) e_) (fun e_ => (hk_.2.2.2.2.2.1) e_))) (fun k_ hk_ => ⟨hk_.1.1, hk_.1.2.1, hk_.1.2.2.1, hk_.1.2.2.2.1, hk_.1.2.2.2.2.1, hk_.1.2.2.2.2.2.1, hk_.1.2.2.2.2.2.2.1, hk_.1.2.2.2.2.2.2.2.1, hk_.1.2.2.2.2.2.2.2.2⟩)); replace HO303 := Ω5 (ΩE (ok' := fun k_ => some k_ ≠ (.slice Ao53 t260.length co53 : Value).ownBlock ∧ some k_ ≠ (.slice Ao55 t263.length co55 : Value).ownBlock ∧ some k_ ≠ (.slice Ao61 t267.length co61 : Value).ownBlock ∧ some k_ ≠ (.slice Ao66 t270.length co66 : Value).ownBlock ∧ some k_ ≠ (.slice Ao71 t274.length co71 : Value).ownBlock ∧ some k_ ≠ (.slice Ao77 t277.length co77 : Value).ownBlock ∧ some k_ ≠ (.slice Ao81 t283.length co81 : Value).ownBlock ∧ some k_ ≠ (.slice Ao88 t286.length co88 : Value).ownBlock ∧ some k_ ≠ (.slice Ao98 t298.length co98 : Value).ownBlock) (ΩK (HO303.out) hkp (fun k_ hk_ hs_ => Or.elim hs_ (fun e_ => (hk_.2.2.2.2.1) e_) (fun e_ => (hk_.2.2.2.2.2.1) e_))) (fun k_ hk_ => ⟨hk_.1.1, hk_.1.2.1, hk_.1.2.2.1, hk_.1.2.2.2.1, hk_.1.2.2.2.2.1, hk_.1.2.2.2.2.2.1, hk_.1.2.2.2.2.2.2.1, hk_.1.2.2.2.2.2.2.2.1, hk_.1.2.2.2.2.2.2.2.2⟩)); replace HB := Ω5 (hb); (try clear hb); (try clear hkp); (try clear hy0); (try clear hy1)))
      (try simp only [Act.put, List.setIfInBounds_toArray, List.set_cons_zero, List.set_cons_succ])
      go_cut [63] (fun v63 wc => ∃ (kq : Nat) (x63_34 : Bool), v63 = .bool x63_34 ∧ Aside0 (laws_FnExactLook.j0 kq x63_34 l0_0 l0_1 l1_0 l1_1 a1_2 a1_3 t260 t263 t283 t286 = some r) ∧ Aside0 (kq ≤ k) ∧ Aside0 (Kd.R (Kd.int .i64) 3 wc w.heap.size (fun k_ => some k_ ≠ ((.slice Ao55 t263.length co55) : Value).ownBlock ∧ some k_ ≠ ((.slice Ao81 t283.length co81) : Value).ownBlock ∧ some k_ ≠ ((.slice Ao88 t286.length co88) : Value).ownBlock) (.slice Ao53 t260.length co53) t260) ∧ Aside0 (Kd.R (Kd.int .i64) 3 wc w.heap.size (fun k_ => some k_ ≠ ((.slice Ao53 t260.length co53) : Value).ownBlock ∧ some k_ ≠ ((.slice Ao81 t283.length co81) : Value).ownBlock ∧ some k_ ≠ ((.slice Ao88 t286.length co88) : Value).ownBlock) (.slice Ao55 t263.length co55) t263) ∧ Aside0 (Kd.R (Kd.int .i64) 3 wc w.heap.size (fun k_ => some k_ ≠ ((.slice Ao53 t260.length co53) : Value).ownBlock ∧ some k_ ≠ ((.slice Ao55 t263.length co55) : Value).ownBlock ∧ some k_ ≠ ((.slice Ao88 t286.length co88) : Value).ownBlock) (.slice Ao81 t283.length co81) t283) ∧ Aside0 (Kd.R (Kd.int .i64) 3 wc w.heap.size (fun k_ => some k_ ≠ ((.slice Ao53 t260.length co53) : Value).ownBlock ∧ some k_ ≠ ((.slice Ao55 t263.length co55) : Value).ownBlock ∧ some k_ ≠ ((.slice Ao81 t283.length co81) : Value).ownBlock) (.slice Ao88 t286.length co88) t286) ∧ Aside0 (wc.heap[gb242]? = some (.cells #[(.slice A0_0 l0_0.length c0_0), (.slice A0_1 l0_1.length c0_1)] 24 (0, 0))) ∧ Aside0 (wc.heap[gb243]? = some (.cells #[(.slice A1_0 l1_0.length c1_0), (.slice A1_1 l1_1.length c1_1), .int .i64 a1_2, .int .i64 a1_3] 33 (0, 0))) ∧ Aside0 (wc.heap[gb266]? = some (.cells #[(.slice Ao53 t260.length co53), (.slice Ao55 t263.length co55)] 26 (0, 0))) ∧ Aside0 (wc.heap[gb289]? = some (.cells #[(.slice Ao81 t283.length co81), (.slice Ao88 t286.length co88)] 26 (0, 0))) ∧ Aside0 (Below w.heap.size w wc))
      case first =>
       have H := HC35.out
       clear HC35
       by_cases c105 : t310 < 0
       ·rw [if_pos c105] at H
        have c105b0 : decide (t310 < 0) = true := decide_eq_true c105
        clear c105
        (first | rw [c105b0] | (simp only [i64_w, i32_w]; rw [c105b0]) | skip)
        have H' := Ω5 H
        clear H
        go_wp2
        go_meet
        case rel => exact ⟨_, (true), (by first | rfl | (simp; done) | (simp [*]; done)), H', ⟨by first | omega | exact Nat.le_refl _⟩, ⟨by (with_reducible repeat (first | apply Ω1 | apply Ω2 | apply Ω3)); exact ΩE HO262.out (fun _ hk => ⟨hk.1, ⟨hk.2.2.2.2.2.1, hk.2.2.2.2.2.2.1⟩⟩)⟩, ⟨by (with_reducible repeat (first | apply Ω1 | apply Ω2 | apply Ω3)); exact ΩE HO265.out (fun _ hk => ⟨hk.1, ⟨hk.2.2.2.2.2.1, hk.2.2.2.2.2.2.1⟩⟩)⟩, ⟨by (with_reducible repeat (first | apply Ω1 | apply Ω2 | apply Ω3)); exact ΩE HO285.out (fun _ hk => ⟨hk.1, ⟨hk.2.1, hk.2.2.2.2.2.2.1⟩⟩)⟩, ⟨by (with_reducible repeat (first | apply Ω1 | apply Ω2 | apply Ω3)); exact ΩE HO288.out (fun _ hk => ⟨hk.1, ⟨hk.2.1, hk.2.2.2.2.2.2.1⟩⟩)⟩, ⟨by (with_reducible repeat (first | refine ΩA ?_ _ | refine ΩC ?_ | refine ΩB ?_ _)); exact BK242.out⟩, ⟨by (with_reducible repeat (first | refine ΩA ?_ _ | refine ΩC ?_ | refine ΩB ?_ _)); exact BK243.out⟩, ⟨by (with_reducible repeat (first | refine ΩA ?_ _ | refine ΩC ?_ | refine ΩB ?_ _)); exact BK266.out⟩, ⟨by (with_reducible repeat (first | refine ΩA ?_ _ | refine ΩC ?_ | refine ΩB ?_ _)); exact BK289.out⟩, ⟨HBu HB.out⟩⟩
       ·rw [if_neg c105] at H
        have c105b0 : decide (t310 < 0) = false := decide_eq_false c105
        clear c105
        (first | rw [c105b0] | (simp only [i64_w, i32_w]; rw [c105b0]) | skip)
        replace H := Option.bind_eq_some_iff.mp H
        obtain ⟨t313, A1060, H⟩ := H
        try dsimp only at H
        have A106 := Ω5 A1060
        clear A1060
        have H' := Ω5 H
        clear H
        have hnb107 := NB289_242.out
        have hnc107 := NB242_289.out
        have hnb108 := NB289_243.out
        have hnc108 := NB243_289.out
        have hnb109 := NB289_266.out
        have hnc109 := NB266_289.out
        have hnb110 := NB289_273.out
        have hnc110 := NB273_289.out
        have hnb111 := NB289_282.out
        have hnc111 := NB282_289.out
        have hcz112_0 : w104.cell? ⟨gb289, 0, none⟩ = some (.slice Ao81 t283.length co81) := (ΩJ BK289.out 0).trans rfl
        have hcz112_1 : w104.cell? ⟨gb289, 1, none⟩ = some (.slice Ao88 t286.length co88) := (ΩJ BK289.out 1).trans rfl
        have hfz112_0 := ΩF BK289.out 0
        have hfz112_1 := ΩF BK289.out 1
        have hnb113 := NB266_242.out
        have hnc113 := NB242_266.out
        have hnb114 := NB266_243.out
        have hnc114 := NB243_266.out
        have hnb115 := NB266_273.out
        have hnc115 := NB273_266.out
        have hnb116 := NB266_282.out
        have hnc116 := NB282_266.out
        have hcz117_0 : w104.cell? ⟨gb266, 0, none⟩ = some (.slice Ao53 t260.length co53) := (ΩJ BK266.out 0).trans rfl
        have hcz117_1 : w104.cell? ⟨gb266, 1, none⟩ = some (.slice Ao55 t263.length co55) := (ΩJ BK266.out 1).trans rfl
        have hfz117_0 := ΩF BK266.out 0
        have hfz117_1 := ΩF BK266.out 1
        go_wp2_with (first | (go_at_call 13; (with_reducible refine (laws_eqTensor.calls k _ _ t283 _ _ t286 _ _ t260 _ _ t263 t313 _ ?side1 ?side2 ?side3 ?side4 ?side5 ?side6 ?side7 ?side8 A106.out).mono ?_); (case side1 => exact (Cu ((Kd.R_reads' HO285.out).2.2))); (case side2 => exact (Kd.R_reads' HO285.out).2.1); (case side3 => exact (Cu ((Kd.R_reads' HO288.out).2.2))); (case side4 => exact (Kd.R_reads' HO288.out).2.1); (case side5 => exact (Cu ((Kd.R_reads' HO262.out).2.2))); (case side6 => exact (Kd.R_reads' HO262.out).2.1); (case side7 => exact (Cu ((Kd.R_reads' HO265.out).2.2))); (case side8 => exact (Kd.R_reads' HO265.out).2.1); rintro e w118 ⟨rfl, hb⟩; replace HO262 := Ω5 (Rb HO262.out hb); replace HO265 := Ω5 (Rb HO265.out hb); replace HO269 := Ω5 (Rb HO269.out hb); replace HO272 := Ω5 (Rb HO272.out hb); replace HO276 := Ω5 (Rb HO276.out hb); replace HO279 := Ω5 (Rb HO279.out hb); replace HO285 := Ω5 (Rb HO285.out hb); replace HO288 := Ω5 (Rb HO288.out hb); replace HO300 := Ω5 (Rb HO300.out hb); replace HO303 := Ω5 (Rb HO303.out hb); replace BK242 := Ω5 (Bb BK242.out hb); replace BK243 := Ω5 (Bb BK243.out hb); replace BK266 := Ω5 (Bb BK266.out hb); replace BK273 := Ω5 (Bb BK273.out hb); replace BK282 := Ω5 (Bb BK282.out hb); replace BK289 := Ω5 (Bb BK289.out hb); replace HB := Ω5 (below_step (HBu HB.out) hb); (try clear hb); (try clear hb2); (try clear hk); (try clear hi)))
        go_meet
        case rel => exact ⟨_, (!t313), (by first | rfl | (simp; done) | (simp [*]; done)), H', ⟨by first | omega | exact Nat.le_refl _⟩, ⟨by (with_reducible repeat (first | apply Ω1 | apply Ω2 | apply Ω3)); exact ΩE HO262.out (fun _ hk => ⟨hk.1, ⟨hk.2.2.2.2.2.1, hk.2.2.2.2.2.2.1⟩⟩)⟩, ⟨by (with_reducible repeat (first | apply Ω1 | apply Ω2 | apply Ω3)); exact ΩE HO265.out (fun _ hk => ⟨hk.1, ⟨hk.2.2.2.2.2.1, hk.2.2.2.2.2.2.1⟩⟩)⟩, ⟨by (with_reducible repeat (first | apply Ω1 | apply Ω2 | apply Ω3)); exact ΩE HO285.out (fun _ hk => ⟨hk.1, ⟨hk.2.1, hk.2.2.2.2.2.2.1⟩⟩)⟩, ⟨by (with_reducible repeat (first | apply Ω1 | apply Ω2 | apply Ω3)); exact ΩE HO288.out (fun _ hk => ⟨hk.1, ⟨hk.2.1, hk.2.2.2.2.2.2.1⟩⟩)⟩, ⟨by (with_reducible repeat (first | refine ΩA ?_ _ | refine ΩC ?_ | refine ΩB ?_ _)); exact BK242.out⟩, ⟨by (with_reducible repeat (first | refine ΩA ?_ _ | refine ΩC ?_ | refine ΩB ?_ _)); exact BK243.out⟩, ⟨by (with_reducible repeat (first | refine ΩA ?_ _ | refine ΩC ?_ | refine ΩB ?_ _)); exact BK266.out⟩, ⟨by (with_reducible repeat (first | refine ΩA ?_ _ | refine ΩC ?_ | refine ΩB ?_ _)); exact BK289.out⟩, ⟨HBu HB.out⟩⟩
      case rest =>
       clear HC35
       try clear c1
       try clear c2
       try clear p2
       try clear c5
       try clear c6
       try clear c7
       try clear c8
       try clear c10
       try clear c11
       try clear c13
       try clear c14
       try clear c18
       try clear c19
       try clear c20
       try clear c21
       try clear c57
       try clear c62
       try clear c63
       try clear c64
       try clear c67
       try clear c72
       try clear c73
       try clear c74
       try clear c75
       try clear c82
       try clear c83
       try clear c84
       try clear c85
       try clear c86
       try clear c105
       try clear c105b0
       try clear c107
       try clear c108
       try clear c109
       try clear c110
       try clear c111
       try clear c113
       try clear c114
       try clear c115
       try clear c116
       try clear hcz101_0
       try clear hcz101_1
       try clear hcz103_0
       try clear hcz103_1
       try clear hcz103_2
       try clear hcz103_3
       try clear hcz112_0
       try clear hcz112_1
       try clear hcz117_0
       try clear hcz117_1
       try clear hcz58_0
       try clear hcz58_1
       try clear hcz65_0
       try clear hcz65_1
       try clear hcz68_0
       try clear hcz68_1
       try clear hcz68_2
       try clear hcz68_3
       try clear hcz76_0
       try clear hcz76_1
       try clear hcz76_2
       try clear hcz76_3
       try clear hcz78_0
       try clear hcz78_1
       try clear hcz87_0
       try clear hcz87_1
       try clear hcz89_0
       try clear hcz89_1
       try clear hfz101_0
       try clear hfz101_1
       try clear hfz103_0
       try clear hfz103_1
       try clear hfz103_2
       try clear hfz103_3
       try clear hfz112_0
       try clear hfz112_1
       try clear hfz117_0
       try clear hfz117_1
       try clear hfz58_0
       try clear hfz58_1
       try clear hfz65_0
       try clear hfz65_1
       try clear hfz68_0
       try clear hfz68_1
       try clear hfz68_2
       try clear hfz68_3
       try clear hfz76_0
       try clear hfz76_1
       try clear hfz76_2
       try clear hfz76_3
       try clear hfz78_0
       try clear hfz78_1
       try clear hfz87_0
       try clear hfz87_1
       try clear hfz89_0
       try clear hfz89_1
       obtain ⟨kq, x63_34, rfl, HA, HJ34, HO_267000, HO_267001, HO_290000, HO_290001, BK242, BK243, BK266, BK289, HB⟩ := hcut
       cases kq with
       | zero => exact absurd HA.out (by simp [laws_FnExactLook.j0])
       | succ kj34 =>
        have H := HA.out
        clear HA
        simp only [laws_FnExactLook.j0] at H
        by_cases c119 : x63_34 = true
        ·subst c119
         have H1 : (some false) = some r := by rw [if_pos rfl] at H; exact H
         clear H
         have H := H1
         clear H1
         rw [HRT.out] at H
         exact absurd H (by simp)
        ·replace c119 := Bool.eq_false_iff.mpr c119
         subst c119
         have H1 : ((laws_markTensor.f kj34 t283 t286 1).bind fun bt314 => ((laws_heldTensor.f kj34 bt314.2.1 bt314.2.2 1).bind fun t317 => (if t317 < 0 then (some false) else (if t317 = bt314.1 then ((laws_toTensor.f kj34 l0_0 l0_1).bind fun bt318 => ((laws_toView.f kj34 l1_0 l1_1 a1_2 a1_3).bind fun bt324 => ((impl_Look.f kj34 bt318.1 bt318.2 bt324.1 bt324.2.1 bt324.2.2.1 bt324.2.2.2).bind fun bt332 => ((laws_eqTensor.f kj34 bt332.1 bt332.2 t260 t263).bind fun t339 => (if t339 = true then ((laws_heldTensor.f kj34 bt314.2.1 bt314.2.2 1).bind fun t340 => (if t340 < 0 then (some false) else (if t340 = bt314.1 then (some true) else (some false)))) else (some false)))))) else (some false))))) = some r := by rw [if_neg (show ¬ (false = true) by decide)] at H; exact H
         clear H
         have H := H1
         clear H1
         replace H := Option.bind_eq_some_iff.mp H
         obtain ⟨⟨t314, t315, t316⟩, A1200, H⟩ := H
         try dsimp only at H
         have A120 := Ω5 A1200
         clear A1200
         replace H := Option.bind_eq_some_iff.mp H
         obtain ⟨t317, A1210, H⟩ := H
         try dsimp only at H
         have A121 := Ω5 A1210
         clear A1210
         by_cases c122 : t317 < 0
         ·rw [if_pos c122] at H
          have c122b0 : decide (t317 < 0) = true := decide_eq_true c122
          clear c122
          rw [HRT.out] at H
          exact absurd H (by simp)
         ·rw [if_neg c122] at H
          have c122b0 : decide (t317 < 0) = false := decide_eq_false c122
          clear c122
          by_cases c123 : t317 = t314
          ·rw [if_pos c123] at H
           have c123b0 : (t317 == t314) = true := beq_iff_eq.mpr c123
           have c123b1 : (t317 != t314) = false := bne_eq_false_iff_eq.mpr c123
           clear c123
           replace H := Option.bind_eq_some_iff.mp H
           obtain ⟨⟨t318, t321⟩, A1240, H⟩ := H
           try dsimp only at H
           have A124 := Ω5 A1240
           clear A1240
           replace H := Option.bind_eq_some_iff.mp H
           obtain ⟨⟨t324, t327, t330, t331⟩, A1250, H⟩ := H
           try dsimp only at H
           have A125 := Ω5 A1250
           clear A1250
           replace H := Option.bind_eq_some_iff.mp H
           obtain ⟨⟨t332, t335⟩, A1260, H⟩ := H
           try dsimp only at H
           have A126 := Ω5 A1260
           clear A1260
           replace H := Option.bind_eq_some_iff.mp H
           obtain ⟨t339, A1270, H⟩ := H
           try dsimp only at H
           have A127 := Ω5 A1270
           clear A1270
           by_cases c128 : t339 = true
           ·subst c128
            have H1 : ((laws_heldTensor.f kj34 t315 t316 1).bind fun t340 => (if t340 < 0 then (some false) else (if t340 = t314 then (some true) else (some false)))) = some r := by rw [if_pos rfl] at H; exact H
            clear H
            have H := H1
            clear H1
            replace H := Option.bind_eq_some_iff.mp H
            obtain ⟨t340, A1290, H⟩ := H
            try dsimp only at H
            have A129 := Ω5 A1290
            clear A1290
            by_cases c130 : t340 < 0
            ·rw [if_pos c130] at H
             have c130b0 : decide (t340 < 0) = true := decide_eq_true c130
             clear c130
             rw [HRT.out] at H
             exact absurd H (by simp)
            ·rw [if_neg c130] at H
             have c130b0 : decide (t340 < 0) = false := decide_eq_false c130
             clear c130
             by_cases c131 : t340 = t314
             ·rw [if_pos c131] at H
              have c131b0 : (t340 == t314) = true := beq_iff_eq.mpr c131
              have c131b1 : (t340 != t314) = false := bne_eq_false_iff_eq.mpr c131
              clear c131
              obtain rfl := Option.some.inj H
              have hnb132 := NB289_242.out
              have hnc132 := NB242_289.out
              have hnb133 := NB289_243.out
              have hnc133 := NB243_289.out
              have hnb134 := NB289_266.out
              have hnc134 := NB266_289.out
              have hcz135_0 : wc.cell? ⟨gb289, 0, none⟩ = some (.slice Ao81 t283.length co81) := (ΩJ BK289.out 0).trans rfl
              have hcz135_1 : wc.cell? ⟨gb289, 1, none⟩ = some (.slice Ao88 t286.length co88) := (ΩJ BK289.out 1).trans rfl
              have hfz135_0 := ΩF BK289.out 0
              have hfz135_1 := ΩF BK289.out 1
              try go_wp2_with (first | ((with_reducible refine gate_callee (f := 14) rfl ?_); refine goesL_ (some 66) rfl rfl Try.func14 (by kernel_rfl) rfl #[.agg #[.slice Ao81 t283.length co81, .slice Ao88 t286.length co88], .int .i64 1] rfl (by (try simp only [List.map_toArray, List.map_cons, List.map_nil]); first | done | rfl | (simp only [List.length_drop, List.length_take]; rfl)) ?_; (with_reducible refine (laws_markTensor.calls kj34 (fun k_ => some k_ = (.slice Ao81 t283.length co81 : Value).ownBlock) (.slice Ao81 t283.length co81) t283 (fun k_ => some k_ = (.slice Ao88 t286.length co88 : Value).ownBlock) (.slice Ao88 t286.length co88) t286 1 t314 t315 t316 w _ ?side1 ?side2 ?side3 ?side4 ?side5 A120.out).mono ?_); (case side1 => exact HBu HB.out); (case side2 => exact Kd.R_tight rfl HO_290000.out); (case side3 => exact fun k_ e_ => (HO_290000.out.1 k_ e_.symm).2.2); (case side4 => exact Kd.R_tight rfl HO_290001.out); (case side5 => exact fun k_ e_ => (HO_290001.out.1 k_ e_.symm).2.2); rintro e w136 ⟨rfl, hy0, hy1, hb, hkp⟩; refine ⟨_, rfl, ?_⟩; replace HO_267000 := Ω5 (ΩE (ok' := fun k_ => some k_ ≠ (.slice Ao55 t263.length co55 : Value).ownBlock ∧ some k_ ≠ (.slice Ao81 t283.length co81 : Value).ownBlock ∧ some k_ ≠ (.slice Ao88 t286.length co88 : Value).ownBlock) (ΩK (HO_267000.out) hkp (fun k_ hk_ hs_ => Or.elim hs_ (fun e_ => (hk_.2.1) e_) (fun e_ => (hk_.2.2) e_))) (fun k_ hk_ => ⟨hk_.1.1, hk_.1.2.1, hk_.1.2.2⟩)); replace HO_267001 := Ω5 (ΩE (ok' := fun k_ => some k_ ≠ (.slice Ao53 t260.length co53 : Value).ownBlock ∧ some k_ ≠ (.slice Ao81 t283.length co81 : Value).ownBlock ∧ some k_ ≠ (.slice Ao88 t286.length co88 : Value).ownBlock) (ΩK (HO_267001.out) hkp (fun k_ hk_ hs_ => Or.elim hs_ (fun e_ => (hk_.2.1) e_) (fun e_ => (hk_.2.2) e_))) (fun k_ hk_ => ⟨hk_.1.1, hk_.1.2.1, hk_.1.2.2⟩)); replace BK242 := Ω5 (blk_kept (Bu BK242.out) hkp (fun hs_ => Or.elim hs_ (fun e_ => (fun e_ => (Kd.R_ne HO_290000.out BK242.out (by decide)) e_) e_) (fun e_ => (fun e_ => (Kd.R_ne HO_290001.out BK242.out (by decide)) e_) e_))); replace BK243 := Ω5 (blk_kept (Bu BK243.out) hkp (fun hs_ => Or.elim hs_ (fun e_ => (fun e_ => (Kd.R_ne HO_290000.out BK243.out (by decide)) e_) e_) (fun e_ => (fun e_ => (Kd.R_ne HO_290001.out BK243.out (by decide)) e_) e_))); replace BK266 := Ω5 (blk_kept (Bu BK266.out) hkp (fun hs_ => Or.elim hs_ (fun e_ => (fun e_ => (Kd.R_ne HO_290000.out BK266.out (by decide)) e_) e_) (fun e_ => (fun e_ => (Kd.R_ne HO_290001.out BK266.out (by decide)) e_) e_))); replace BK289 := Ω5 (blk_kept (Bu BK289.out) hkp (fun hs_ => Or.elim hs_ (fun e_ => (fun e_ => (Kd.R_ne HO_290000.out BK289.out (by decide)) e_) e_) (fun e_ => (fun e_ => (Kd.R_ne HO_290001.out BK289.out (by decide)) e_) e_))); replace HO_290000 := Ω5 (Kd.R_reok rfl hy0 (fun k_ e_ => HO_290000.out.1 k_ e_)); replace HO_290001 := Ω5 (Kd.R_reok rfl hy1 (fun k_ e_ => HO_290001.out.1 k_ e_)); replace HB := Ω5 (hb); (try clear hb); (try clear hkp); (try clear hy0); (try clear hy1); have hcz137_0 : w136.cell? ⟨gb289, 0, none⟩ = some (.slice Ao81 t283.length co81) := (ΩJ BK289.out 0).trans rfl; have hcz137_1 : w136.cell? ⟨gb289, 1, none⟩ = some (.slice Ao88 t286.length co88) := (ΩJ BK289.out 1).trans rfl; have hfz137_0 := ΩF BK289.out 0; have hfz137_1 := ΩF BK289.out 1) | ((with_reducible refine gate_callee (f := 15) rfl ?_); refine goesL_ (some 69) rfl rfl Try.func15 (by kernel_rfl) rfl #[.agg #[.slice Ao81 t315.length co81, .slice Ao88 t316.length co88], .int .i64 1] rfl (by (try simp only [List.map_toArray, List.map_cons, List.map_nil]); first | done | (rw [show t315.length = t283.length from (Kd.R_reads' HO_290000.out).1.symm, show t316.length = t286.length from (Kd.R_reads' HO_290001.out).1.symm] <;> rfl) | rfl | (simp only [List.length_drop, List.length_take]; rfl)) ?_; (with_reducible refine (laws_heldTensor.calls kj34 _ _ t315 _ _ t316 1 t317 _ ?side1 ?side2 ?side3 ?side4 A121.out).mono ?_); (case side1 => exact (Cu ((Kd.R_reads' HO_290000.out).2.2))); (case side2 => rw [show t315.length = t283.length from (Kd.R_reads' HO_290000.out).1.symm]; exact (Kd.R_reads' HO_290000.out).2.1); (case side3 => exact (Cu ((Kd.R_reads' HO_290001.out).2.2))); (case side4 => rw [show t316.length = t286.length from (Kd.R_reads' HO_290001.out).1.symm]; exact (Kd.R_reads' HO_290001.out).2.1); rintro e w138 ⟨rfl, hb⟩; refine ⟨_, rfl, ?_⟩; replace HO_267000 := Ω5 (Rb HO_267000.out hb); replace HO_267001 := Ω5 (Rb HO_267001.out hb); replace HO_290000 := Ω5 (Rb HO_290000.out hb); replace HO_290001 := Ω5 (Rb HO_290001.out hb); replace BK242 := Ω5 (Bb BK242.out hb); replace BK243 := Ω5 (Bb BK243.out hb); replace BK266 := Ω5 (Bb BK266.out hb); replace BK289 := Ω5 (Bb BK289.out hb); replace HB := Ω5 (below_step (HBu HB.out) hb); (try clear hb); (try clear hb2); (try clear hk); (try clear hi)))
              replace HO_267000 := Ω5 (Ω3 HO_267000.out)
              replace HO_267001 := Ω5 (Ω3 HO_267001.out)
              replace HO_290000 := Ω5 (Ω3 HO_290000.out)
              replace HO_290001 := Ω5 (Ω3 HO_290001.out)
              replace BK242 := Ω5 (ΩC BK242.out)
              replace BK243 := Ω5 (ΩC BK243.out)
              replace BK266 := Ω5 (ΩC BK266.out)
              replace BK289 := Ω5 (ΩC BK289.out)
              replace HB := Ω5 (Ω8 HB.out)
              refine start_ (n := 7) (S := fun w' => w'.cell? ⟨gb242, 0, none⟩ = some (.slice A0_0 l0_0.length c0_0) ∧ w'.cell? ⟨gb242, 1, none⟩ = some (.slice A0_1 l0_1.length c0_1) ∧ w'.cell? ⟨gb243, 0, none⟩ = some (.slice A1_0 l1_0.length c1_0) ∧ w'.cell? ⟨gb243, 1, none⟩ = some (.slice A1_1 l1_1.length c1_1) ∧ w'.cell? ⟨gb243, 2, none⟩ = some (.int .i64 a1_2) ∧ w'.cell? ⟨gb243, 3, none⟩ = some (.int .i64 a1_3)) (ds := []) #[false, false, false, false, false, false, false] (by kernel_rfl) rfl rfl ⟨(ΩJ BK242.out 0).trans rfl, (ΩJ BK242.out 1).trans rfl, (ΩJ BK243.out 0).trans rfl, (ΩJ BK243.out 1).trans rfl, (ΩJ BK243.out 2).trans rfl, (ΩJ BK243.out 3).trans rfl⟩ (fun hHeld => ?_)
              generalize w138.drew = w139 at HO_267000 HO_267001 HO_290000 HO_290001 BK242 BK243 BK266 BK289 HB hHeld ⊢
              refine take_ (i := 0) (N := some 75) (v := ?_) (a' := ?_) #[true, false, false, false, false, false, false] rfl rfl (by kernel_rfl) (fun _ _ _ h => h) (Or.inl ⟨by rfl, ?_⟩) hHeld ?_ ?_
              rotate_left
              ·rintro w' ⟨s0, s1, s2, s3, s4, s5⟩
               go_simp
               with_reducible rfl
              rotate_left
              ·simp only [Act.put, List.setIfInBounds_toArray, List.set_cons_zero, List.set_cons_succ, i64_w, i32_w]
               rfl
              refine take_ (i := 2) (N := some 77) (v := ?_) (a' := ?_) #[true, false, true, false, false, false, false] rfl rfl (by kernel_rfl) (fun _ _ _ h => h) (Or.inl ⟨by rfl, ?_⟩) hHeld ?_ ?_
              rotate_left
              ·rintro w' ⟨s0, s1, s2, s3, s4, s5⟩
               go_simp
               with_reducible rfl
              rotate_left
              ·simp only [Act.put, List.setIfInBounds_toArray, List.set_cons_zero, List.set_cons_succ, i64_w, i32_w]
               rfl
              refine join_ (σ := Value × Value × Value × Value × Value × Value × Nat) 1 #[true, true, true, true, true, true, false] (fun s_ => [(76, .agg #[s_.1, s_.2.1]), (78, .agg #[s_.2.2.1, s_.2.2.2.1, .int .i64 t330, .int .i64 t331]), (79, .agg #[s_.2.2.2.2.1, s_.2.2.2.2.2.1]), (13, .pointer (some ⟨s_.2.2.2.2.2.2, 0, none⟩))]) (fun s_ w' => (w'.cell? ⟨gb242, 0, none⟩ = some (.slice A0_0 l0_0.length c0_0) ∧ w'.cell? ⟨gb242, 1, none⟩ = some (.slice A0_1 l0_1.length c0_1) ∧ w'.cell? ⟨gb243, 0, none⟩ = some (.slice A1_0 l1_0.length c1_0) ∧ w'.cell? ⟨gb243, 1, none⟩ = some (.slice A1_1 l1_1.length c1_1) ∧ w'.cell? ⟨gb243, 2, none⟩ = some (.int .i64 a1_2) ∧ w'.cell? ⟨gb243, 3, none⟩ = some (.int .i64 a1_3)) ∧ (Kd.R (Kd.int .i64) 3 w' w.heap.size (fun k_ => some k_ ≠ (s_.2.1 : Value).ownBlock ∧ some k_ ≠ (s_.2.2.1 : Value).ownBlock ∧ some k_ ≠ (s_.2.2.2.1 : Value).ownBlock ∧ some k_ ≠ (s_.2.2.2.2.1 : Value).ownBlock ∧ some k_ ≠ (s_.2.2.2.2.2.1 : Value).ownBlock ∧ some k_ ≠ (.slice Ao53 t260.length co53 : Value).ownBlock ∧ some k_ ≠ (.slice Ao55 t263.length co55 : Value).ownBlock ∧ some k_ ≠ (.slice Ao81 t283.length co81 : Value).ownBlock ∧ some k_ ≠ (.slice Ao88 t286.length co88 : Value).ownBlock) s_.1 t318) ∧ (Kd.R (Kd.int .i64) 3 w' w.heap.size (fun k_ => some k_ ≠ (s_.1 : Value).ownBlock ∧ some k_ ≠ (s_.2.2.1 : Value).ownBlock ∧ some k_ ≠ (s_.2.2.2.1 : Value).ownBlock ∧ some k_ ≠ (s_.2.2.2.2.1 : Value).ownBlock ∧ some k_ ≠ (s_.2.2.2.2.2.1 : Value).ownBlock ∧ some k_ ≠ (.slice Ao53 t260.length co53 : Value).ownBlock ∧ some k_ ≠ (.slice Ao55 t263.length co55 : Value).ownBlock ∧ some k_ ≠ (.slice Ao81 t283.length co81 : Value).ownBlock ∧ some k_ ≠ (.slice Ao88 t286.length co88 : Value).ownBlock) s_.2.1 t321) ∧ (Kd.R (Kd.int .i64) 3 w' w.heap.size (fun k_ => some k_ ≠ (s_.1 : Value).ownBlock ∧ some k_ ≠ (s_.2.1 : Value).ownBlock ∧ some k_ ≠ (s_.2.2.2.1 : Value).ownBlock ∧ some k_ ≠ (s_.2.2.2.2.1 : Value).ownBlock ∧ some k_ ≠ (s_.2.2.2.2.2.1 : Value).ownBlock ∧ some k_ ≠ (.slice Ao53 t260.length co53 : Value).ownBlock ∧ some k_ ≠ (.slice Ao55 t263.length co55 : Value).ownBlock ∧ some k_ ≠ (.slice Ao81 t283.length co81 : Value).ownBlock ∧ some k_ ≠ (.slice Ao88 t286.length co88 : Value).ownBlock) s_.2.2.1 t324) ∧ (Kd.R (Kd.int .i64) 3 w' w.heap.size (fun k_ => some k_ ≠ (s_.1 : Value).ownBlock ∧ some k_ ≠ (s_.2.1 : Value).ownBlock ∧ some k_ ≠ (s_.2.2.1 : Value).ownBlock ∧ some k_ ≠ (s_.2.2.2.2.1 : Value).ownBlock ∧ some k_ ≠ (s_.2.2.2.2.2.1 : Value).ownBlock ∧ some k_ ≠ (.slice Ao53 t260.length co53 : Value).ownBlock ∧ some k_ ≠ (.slice Ao55 t263.length co55 : Value).ownBlock ∧ some k_ ≠ (.slice Ao81 t283.length co81 : Value).ownBlock ∧ some k_ ≠ (.slice Ao88 t286.length co88 : Value).ownBlock) s_.2.2.2.1 t327) ∧ (Kd.R (Kd.int .i64) 3 w' w.heap.size (fun k_ => some k_ ≠ (s_.1 : Value).ownBlock ∧ some k_ ≠ (s_.2.1 : Value).ownBlock ∧ some k_ ≠ (s_.2.2.1 : Value).ownBlock ∧ some k_ ≠ (s_.2.2.2.1 : Value).ownBlock ∧ some k_ ≠ (s_.2.2.2.2.2.1 : Value).ownBlock ∧ some k_ ≠ (.slice Ao53 t260.length co53 : Value).ownBlock ∧ some k_ ≠ (.slice Ao55 t263.length co55 : Value).ownBlock ∧ some k_ ≠ (.slice Ao81 t283.length co81 : Value).ownBlock ∧ some k_ ≠ (.slice Ao88 t286.length co88 : Value).ownBlock) s_.2.2.2.2.1 t332) ∧ (Kd.R (Kd.int .i64) 3 w' w.heap.size (fun k_ => some k_ ≠ (s_.1 : Value).ownBlock ∧ some k_ ≠ (s_.2.1 : Value).ownBlock ∧ some k_ ≠ (s_.2.2.1 : Value).ownBlock ∧ some k_ ≠ (s_.2.2.2.1 : Value).ownBlock ∧ some k_ ≠ (s_.2.2.2.2.1 : Value).ownBlock ∧ some k_ ≠ (.slice Ao53 t260.length co53 : Value).ownBlock ∧ some k_ ≠ (.slice Ao55 t263.length co55 : Value).ownBlock ∧ some k_ ≠ (.slice Ao81 t283.length co81 : Value).ownBlock ∧ some k_ ≠ (.slice Ao88 t286.length co88 : Value).ownBlock) s_.2.2.2.2.2.1 t335) ∧ (Kd.R (Kd.int .i64) 3 w' w.heap.size (fun k_ => some k_ ≠ (s_.1 : Value).ownBlock ∧ some k_ ≠ (s_.2.1 : Value).ownBlock ∧ some k_ ≠ (s_.2.2.1 : Value).ownBlock ∧ some k_ ≠ (s_.2.2.2.1 : Value).ownBlock ∧ some k_ ≠ (s_.2.2.2.2.1 : Value).ownBlock ∧ some k_ ≠ (s_.2.2.2.2.2.1 : Value).ownBlock ∧ some k_ ≠ (.slice Ao55 t263.length co55 : Value).ownBlock ∧ some k_ ≠ (.slice Ao81 t283.length co81 : Value).ownBlock ∧ some k_ ≠ (.slice Ao88 t286.length co88 : Value).ownBlock) (.slice Ao53 t260.length co53) t260) ∧ (Kd.R (Kd.int .i64) 3 w' w.heap.size (fun k_ => some k_ ≠ (s_.1 : Value).ownBlock ∧ some k_ ≠ (s_.2.1 : Value).ownBlock ∧ some k_ ≠ (s_.2.2.1 : Value).ownBlock ∧ some k_ ≠ (s_.2.2.2.1 : Value).ownBlock ∧ some k_ ≠ (s_.2.2.2.2.1 : Value).ownBlock ∧ some k_ ≠ (s_.2.2.2.2.2.1 : Value).ownBlock ∧ some k_ ≠ (.slice Ao53 t260.length co53 : Value).ownBlock ∧ some k_ ≠ (.slice Ao81 t283.length co81 : Value).ownBlock ∧ some k_ ≠ (.slice Ao88 t286.length co88 : Value).ownBlock) (.slice Ao55 t263.length co55) t263) ∧ (Kd.R (Kd.int .i64) 3 w' w.heap.size (fun k_ => some k_ ≠ (s_.1 : Value).ownBlock ∧ some k_ ≠ (s_.2.1 : Value).ownBlock ∧ some k_ ≠ (s_.2.2.1 : Value).ownBlock ∧ some k_ ≠ (s_.2.2.2.1 : Value).ownBlock ∧ some k_ ≠ (s_.2.2.2.2.1 : Value).ownBlock ∧ some k_ ≠ (s_.2.2.2.2.2.1 : Value).ownBlock ∧ some k_ ≠ (.slice Ao53 t260.length co53 : Value).ownBlock ∧ some k_ ≠ (.slice Ao55 t263.length co55 : Value).ownBlock ∧ some k_ ≠ (.slice Ao88 t286.length co88 : Value).ownBlock) (.slice Ao81 t283.length co81) t315) ∧ (Kd.R (Kd.int .i64) 3 w' w.heap.size (fun k_ => some k_ ≠ (s_.1 : Value).ownBlock ∧ some k_ ≠ (s_.2.1 : Value).ownBlock ∧ some k_ ≠ (s_.2.2.1 : Value).ownBlock ∧ some k_ ≠ (s_.2.2.2.1 : Value).ownBlock ∧ some k_ ≠ (s_.2.2.2.2.1 : Value).ownBlock ∧ some k_ ≠ (s_.2.2.2.2.2.1 : Value).ownBlock ∧ some k_ ≠ (.slice Ao53 t260.length co53 : Value).ownBlock ∧ some k_ ≠ (.slice Ao55 t263.length co55 : Value).ownBlock ∧ some k_ ≠ (.slice Ao81 t283.length co81 : Value).ownBlock) (.slice Ao88 t286.length co88) t316) ∧ (w'.heap[gb242]? = some (.cells #[.slice A0_0 l0_0.length c0_0, .slice A0_1 l0_1.length c0_1] 24 (0, 0))) ∧ (w'.heap[gb243]? = some (.cells #[.slice A1_0 l1_0.length c1_0, .slice A1_1 l1_1.length c1_1, .int .i64 a1_2, .int .i64 a1_3] 33 (0, 0))) ∧ (w'.heap[gb266]? = some (.cells #[.slice Ao53 t260.length co53, .slice Ao55 t263.length co55] 26 (0, 0))) ∧ (w'.heap[gb289]? = some (.cells #[.slice Ao81 t283.length co81, .slice Ao88 t286.length co88] 26 (0, 0))) ∧ (w'.heap[s_.2.2.2.2.2.2]? = some (.cells #[.slice none 0 0, .slice none 0 0] 26 (0, 0))) ∧ (w.heap.size ≤ s_.2.2.2.2.2.2) ∧ (w.heap.size ≤ s_.2.2.2.2.2.2) ∧ (gb242 ≠ s_.2.2.2.2.2.2) ∧ (s_.2.2.2.2.2.2 ≠ gb242) ∧ (gb243 ≠ s_.2.2.2.2.2.2) ∧ (s_.2.2.2.2.2.2 ≠ gb243) ∧ (gb266 ≠ s_.2.2.2.2.2.2) ∧ (s_.2.2.2.2.2.2 ≠ gb266) ∧ (gb289 ≠ s_.2.2.2.2.2.2) ∧ (s_.2.2.2.2.2.2 ≠ gb289) ∧ (Below w.heap.size w w')) ?_ ?_
              rotate_left
              ·intro hCont
               refine two_ (i := 1) (j := 5) (Ni := some 76) (Nj := some 13) #[true, true, true, false, false, false, false] #[true, false, true, false, false, true, false] rfl rfl rfl rfl (by kernel_rfl) (by decide) (by decide) (fun K hK => ?_) (fun K hK => ?_)
               ·skip
                refine goes_ Try.func11 (by kernel_rfl) rfl #[.agg #[.slice A0_0 l0_0.length c0_0, .slice A0_1 l0_1.length c0_1]] (by rfl) rfl rfl (by (try simp only [List.map_toArray, List.map_cons, List.map_nil]); first | done | rfl | (simp only [List.length_drop, List.length_take]; rfl)) ?_
                with_reducible refine (laws_toTensor.calls kj34 _ _ l0_0 _ _ l0_1 t318 t321 _ ?side1 ?side2 ?side3 ?side4 A124.out).mono ?_
                (case side1 => exact (Cu ((Kd.C_below HR0_0.out HB.out))))
                (case side2 => exact HC0_0.out)
                (case side3 => exact (Cu ((Kd.C_below HR0_1.out HB.out))))
                (case side4 => exact HC0_1.out)
                rintro e w140 ⟨v319, v322, rfl, ho0, ho1, hb⟩
                refine ⟨_, rfl, ?_⟩
                have HO320 := Ω5 (Kd.R_lower (Kd.R_new' (Kd.R_new' (Kd.R_new' (Kd.R_new' ho0 (Kd.R_lt (Ru HO_267000.out))) (Kd.R_lt (Ru HO_267001.out))) (Kd.R_lt (Ru HO_290000.out))) (Kd.R_lt (Ru HO_290001.out))) (below_size (HBu HB.out)))
                have HO323 := Ω5 (Kd.R_lower (Kd.R_new' (Kd.R_new' (Kd.R_new' (Kd.R_new' ho1 (Kd.R_lt (Ru HO_267000.out))) (Kd.R_lt (Ru HO_267001.out))) (Kd.R_lt (Ru HO_290000.out))) (Kd.R_lt (Ru HO_290001.out))) (below_size (HBu HB.out)))
                replace HO_267000 := Ω5 (Rt2 HO_267000.out hb ho0 ho1)
                replace HO_267001 := Ω5 (Rt2 HO_267001.out hb ho0 ho1)
                replace HO_290000 := Ω5 (Rt2 HO_290000.out hb ho0 ho1)
                replace HO_290001 := Ω5 (Rt2 HO_290001.out hb ho0 ho1)
                replace BK242 := Ω5 (Bb BK242.out hb)
                replace BK243 := Ω5 (Bb BK243.out hb)
                replace BK266 := Ω5 (Bb BK266.out hb)
                replace BK289 := Ω5 (Bb BK289.out hb)
                replace HB := Ω5 (below_step (HBu HB.out) hb)
                (try clear hb)
                (try clear hb2)
                (try clear hk)
                (try clear hi)
                (try clear ho0)
                (try clear ho1)
                refine hK.out _ _ ⟨(ΩJ BK242.out 0).trans rfl, (ΩJ BK242.out 1).trans rfl, (ΩJ BK243.out 0).trans rfl, (ΩJ BK243.out 1).trans rfl, (ΩJ BK243.out 2).trans rfl, (ΩJ BK243.out 3).trans rfl⟩ (fun hHeld => ?_)
                clear hK K
                refine norm_ (a' := ?_) ?_ ?_
                rotate_left
                ·show Act.put _ (some 76) _ = _
                 simp only [Act.put, List.setIfInBounds_toArray, List.set_cons_zero, List.set_cons_succ, i64_w, i32_w]
                 rfl
                refine two_ (i := 3) (j := 5) (Ni := some 78) (Nj := some 13) #[true, true, true, true, false, false, false] #[true, true, true, false, false, true, false] rfl rfl rfl rfl (by kernel_rfl) (by decide) (by decide) (fun K hK => ?_) (fun K hK => ?_)
                ·skip
                 refine goes_ Try.func18 (by kernel_rfl) rfl #[.agg #[.slice A1_0 l1_0.length c1_0, .slice A1_1 l1_1.length c1_1, .int .i64 a1_2, .int .i64 a1_3]] (by rfl) rfl rfl (by (try simp only [List.map_toArray, List.map_cons, List.map_nil]); first | done | rfl | (simp only [List.length_drop, List.length_take]; rfl)) ?_
                 with_reducible refine (laws_toView.calls kj34 _ _ l1_0 _ _ l1_1 a1_2 a1_3 t324 t327 t330 t331 _ ?side1 ?side2 ?side3 ?side4 A125.out).mono ?_
                 (case side1 => exact (Cu ((Kd.C_below HR1_0.out HB.out))))
                 (case side2 => exact HC1_0.out)
                 (case side3 => exact (Cu ((Kd.C_below HR1_1.out HB.out))))
                 (case side4 => exact HC1_1.out)
                 rintro e w141 ⟨v325, v328, rfl, ho0, ho1, hb⟩
                 refine ⟨_, rfl, ?_⟩
                 have HO326 := Ω5 (Kd.R_lower (Kd.R_new' (Kd.R_new' (Kd.R_new' (Kd.R_new' (Kd.R_new' (Kd.R_new' ho0 (Kd.R_lt (Ru HO_267000.out))) (Kd.R_lt (Ru HO_267001.out))) (Kd.R_lt (Ru HO_290000.out))) (Kd.R_lt (Ru HO_290001.out))) (Kd.R_lt (Ru HO320.out))) (Kd.R_lt (Ru HO323.out))) (below_size (HBu HB.out)))
                 have HO329 := Ω5 (Kd.R_lower (Kd.R_new' (Kd.R_new' (Kd.R_new' (Kd.R_new' (Kd.R_new' (Kd.R_new' ho1 (Kd.R_lt (Ru HO_267000.out))) (Kd.R_lt (Ru HO_267001.out))) (Kd.R_lt (Ru HO_290000.out))) (Kd.R_lt (Ru HO_290001.out))) (Kd.R_lt (Ru HO320.out))) (Kd.R_lt (Ru HO323.out))) (below_size (HBu HB.out)))
                 replace HO_267000 := Ω5 (Rt2 HO_267000.out hb ho0 ho1)
                 replace HO_267001 := Ω5 (Rt2 HO_267001.out hb ho0 ho1)
                 replace HO_290000 := Ω5 (Rt2 HO_290000.out hb ho0 ho1)
                 replace HO_290001 := Ω5 (Rt2 HO_290001.out hb ho0 ho1)
                 replace HO320 := Ω5 (Rt2 HO320.out hb ho0 ho1)
                 replace HO323 := Ω5 (Rt2 HO323.out hb ho0 ho1)
                 replace BK242 := Ω5 (Bb BK242.out hb)
                 replace BK243 := Ω5 (Bb BK243.out hb)
                 replace BK266 := Ω5 (Bb BK266.out hb)
                 replace BK289 := Ω5 (Bb BK289.out hb)
                 replace HB := Ω5 (below_step (HBu HB.out) hb)
                 (try clear hb)
                 (try clear hb2)
                 (try clear hk)
                 (try clear hi)
                 (try clear ho0)
                 (try clear ho1)
                 obtain ⟨Ao142, co142, eo142⟩ := Kd.R_slice HO320.out
                 (first | subst eo142 | (injection eo142 with f1_ f2_ f3_; have f4_ := f1_.symm; have f5_ := f3_.symm; clear f1_ f2_ f3_; subst f4_; subst f5_))
                 obtain ⟨Ao143, co143, eo143⟩ := Kd.R_slice HO323.out
                 (first | subst eo143 | (injection eo143 with f1_ f2_ f3_; have f4_ := f1_.symm; have f5_ := f3_.symm; clear f1_ f2_ f3_; subst f4_; subst f5_))
                 obtain ⟨Ao144, co144, eo144⟩ := Kd.R_slice HO326.out
                 (first | subst eo144 | (injection eo144 with f1_ f2_ f3_; have f4_ := f1_.symm; have f5_ := f3_.symm; clear f1_ f2_ f3_; subst f4_; subst f5_))
                 obtain ⟨Ao145, co145, eo145⟩ := Kd.R_slice HO329.out
                 (first | subst eo145 | (injection eo145 with f1_ f2_ f3_; have f4_ := f1_.symm; have f5_ := f3_.symm; clear f1_ f2_ f3_; subst f4_; subst f5_))
                 refine hK.out _ _ ⟨(ΩJ BK242.out 0).trans rfl, (ΩJ BK242.out 1).trans rfl, (ΩJ BK243.out 0).trans rfl, (ΩJ BK243.out 1).trans rfl, (ΩJ BK243.out 2).trans rfl, (ΩJ BK243.out 3).trans rfl⟩ (fun hHeld => ?_)
                 clear hK K
                 refine norm_ (a' := ?_) ?_ ?_
                 rotate_left
                 ·show Act.put _ (some 78) _ = _
                  simp only [Act.put, List.setIfInBounds_toArray, List.set_cons_zero, List.set_cons_succ, i64_w, i32_w]
                  rfl
                 refine two_ (i := 4) (j := 5) (Ni := some 79) (Nj := some 13) #[true, true, true, true, true, false, false] #[true, true, true, true, false, true, false] rfl rfl rfl rfl (by kernel_rfl) (by decide) (by decide) (fun K hK => ?_) (fun K hK => ?_)
                 ·skip
                  refine goes_ Try.func19 (by kernel_rfl) rfl #[.agg #[.slice Ao142 t318.length co142, .slice Ao143 t321.length co143], .agg #[.slice Ao144 t324.length co144, .slice Ao145 t327.length co145, .int .i64 t330, .int .i64 t331]] (by rfl) rfl rfl (by (try simp only [List.map_toArray, List.map_cons, List.map_nil]); first | done | rfl | (simp only [List.length_drop, List.length_take]; rfl)) ?_
                  with_reducible refine (impl_Look.calls kj34 _ _ t318 _ _ t321 _ _ t324 _ _ t327 t330 t331 t332 t335 _ ?side1 ?side2 ?side3 ?side4 ?side5 ?side6 ?side7 ?side8 A126.out).mono ?_
                  (case side1 => exact (Cu ((Kd.R_reads' HO320.out).2.2)))
                  (case side2 => exact (Kd.R_reads' HO320.out).2.1)
                  (case side3 => exact (Cu ((Kd.R_reads' HO323.out).2.2)))
                  (case side4 => exact (Kd.R_reads' HO323.out).2.1)
                  (case side5 => exact (Cu ((Kd.R_reads' HO326.out).2.2)))
                  (case side6 => exact (Kd.R_reads' HO326.out).2.1)
                  (case side7 => exact (Cu ((Kd.R_reads' HO329.out).2.2)))
                  (case side8 => exact (Kd.R_reads' HO329.out).2.1)
                  rintro e w146 ⟨v333, v336, rfl, ho0, ho1, hb⟩
                  refine ⟨_, rfl, ?_⟩
                  have HO334 := Ω5 (Kd.R_lower (Kd.R_new' (Kd.R_new' (Kd.R_new' (Kd.R_new' (Kd.R_new' (Kd.R_new' (Kd.R_new' (Kd.R_new' ho0 (Kd.R_lt (Ru HO_267000.out))) (Kd.R_lt (Ru HO_267001.out))) (Kd.R_lt (Ru HO_290000.out))) (Kd.R_lt (Ru HO_290001.out))) (Kd.R_lt (Ru HO320.out))) (Kd.R_lt (Ru HO323.out))) (Kd.R_lt (Ru HO326.out))) (Kd.R_lt (Ru HO329.out))) (below_size (HBu HB.out)))
                  have HO337 := Ω5 (Kd.R_lower (Kd.R_new' (Kd.R_new' (Kd.R_new' (Kd.R_new' (Kd.R_new' (Kd.R_new' (Kd.R_new' (Kd.R_new' ho1 (Kd.R_lt (Ru HO_267000.out))) (Kd.R_lt (Ru HO_267001.out))) (Kd.R_lt (Ru HO_290000.out))) (Kd.R_lt (Ru HO_290001.out))) (Kd.R_lt (Ru HO320.out))) (Kd.R_lt (Ru HO323.out))) (Kd.R_lt (Ru HO326.out))) (Kd.R_lt (Ru HO329.out))) (below_size (HBu HB.out)))
                  replace HO_267000 := Ω5 (Rt2 HO_267000.out hb ho0 ho1)
                  replace HO_267001 := Ω5 (Rt2 HO_267001.out hb ho0 ho1)
                  replace HO_290000 := Ω5 (Rt2 HO_290000.out hb ho0 ho1)
                  replace HO_290001 := Ω5 (Rt2 HO_290001.out hb ho0 ho1)
                  replace HO320 := Ω5 (Rt2 HO320.out hb ho0 ho1)
                  replace HO323 := Ω5 (Rt2 HO323.out hb ho0 ho1)
                  replace HO326 := Ω5 (Rt2 HO326.out hb ho0 ho1)
                  replace HO329 := Ω5 (Rt2 HO329.out hb ho0 ho1)
                  replace BK242 := Ω5 (Bb BK242.out hb)
                  replace BK243 := Ω5 (Bb BK243.out hb)
                  replace BK266 := Ω5 (Bb BK266.out hb)
                  replace BK289 := Ω5 (Bb BK289.out hb)
                  replace HB := Ω5 (below_step (HBu HB.out) hb)
                  (try clear hb)
                  (try clear hb2)
                  (try clear hk)
                  (try clear hi)
                  (try clear ho0)
                  (try clear ho1)
                  refine hK.out _ _ ⟨(ΩJ BK242.out 0).trans rfl, (ΩJ BK242.out 1).trans rfl, (ΩJ BK243.out 0).trans rfl, (ΩJ BK243.out 1).trans rfl, (ΩJ BK243.out 2).trans rfl, (ΩJ BK243.out 3).trans rfl⟩ (fun hHeld => ?_)
                  clear hK K
                  refine norm_ (a' := ?_) ?_ ?_
                  rotate_left
                  ·show Act.put _ (some 79) _ = _
                   simp only [Act.put, List.setIfInBounds_toArray, List.set_cons_zero, List.set_cons_succ, i64_w, i32_w]
                   rfl
                  refine one_ (i := 5) (N := some 13) #[true, true, true, true, true, true, false] rfl rfl (by kernel_rfl) (by decide) (fun K hK => ?_)
                  refine box_step ?hg (N := 13) ?hd (cs := #[.slice none 0 0, .slice none 0 0]) (t := 26) ?hr ?_; (case hd => rfl); (case hg => rfl); (case hr => first | (go_simp; done) | (go_simp; rfl))
                  intro gb338 hg w147 hbox hb
                  have BK338 := Ω5 (hbox)
                  have GW338 := Ω5 ((by rw [hg]; exact (below_size (HBu HB.out)) : w.heap.size ≤ gb338))
                  have GE338 := Ω5 ((by rw [hg]; exact (below_size (HBu HB.out)) : w.heap.size ≤ gb338))
                  have NB242_338 := Ω5 ((by rw [hg]; exact Nat.ne_of_lt (blk_lt (g := gb242) (o := .cells #[.slice A0_0 l0_0.length c0_0, .slice A0_1 l0_1.length c0_1] 24 (0, 0)) (Bu BK242.out)) : gb242 ≠ gb338))
                  have NB338_242 := Ω5 ((by rw [hg]; exact Nat.ne_of_gt (blk_lt (g := gb242) (o := .cells #[.slice A0_0 l0_0.length c0_0, .slice A0_1 l0_1.length c0_1] 24 (0, 0)) (Bu BK242.out)) : gb338 ≠ gb242))
                  have NB243_338 := Ω5 ((by rw [hg]; exact Nat.ne_of_lt (blk_lt (g := gb243) (o := .cells #[.slice A1_0 l1_0.length c1_0, .slice A1_1 l1_1.length c1_1, .int .i64 a1_2, .int .i64 a1_3] 33 (0, 0)) (Bu BK243.out)) : gb243 ≠ gb338))
                  have NB338_243 := Ω5 ((by rw [hg]; exact Nat.ne_of_gt (blk_lt (g := gb243) (o := .cells #[.slice A1_0 l1_0.length c1_0, .slice A1_1 l1_1.length c1_1, .int .i64 a1_2, .int .i64 a1_3] 33 (0, 0)) (Bu BK243.out)) : gb338 ≠ gb243))
                  have NB266_338 := Ω5 ((by rw [hg]; exact Nat.ne_of_lt (blk_lt (g := gb266) (o := .cells #[.slice Ao53 t260.length co53, .slice Ao55 t263.length co55] 26 (0, 0)) (Bu BK266.out)) : gb266 ≠ gb338))
                  have NB338_266 := Ω5 ((by rw [hg]; exact Nat.ne_of_gt (blk_lt (g := gb266) (o := .cells #[.slice Ao53 t260.length co53, .slice Ao55 t263.length co55] 26 (0, 0)) (Bu BK266.out)) : gb338 ≠ gb266))
                  have NB289_338 := Ω5 ((by rw [hg]; exact Nat.ne_of_lt (blk_lt (g := gb289) (o := .cells #[.slice Ao81 t283.length co81, .slice Ao88 t286.length co88] 26 (0, 0)) (Bu BK289.out)) : gb289 ≠ gb338))
                  have NB338_289 := Ω5 ((by rw [hg]; exact Nat.ne_of_gt (blk_lt (g := gb289) (o := .cells #[.slice Ao81 t283.length co81, .slice Ao88 t286.length co88] 26 (0, 0)) (Bu BK289.out)) : gb338 ≠ gb289))
                  replace HO_267000 := Ω5 (Rb HO_267000.out hb)
                  replace HO_267001 := Ω5 (Rb HO_267001.out hb)
                  replace HO_290000 := Ω5 (Rb HO_290000.out hb)
                  replace HO_290001 := Ω5 (Rb HO_290001.out hb)
                  replace HO320 := Ω5 (Rb HO320.out hb)
                  replace HO323 := Ω5 (Rb HO323.out hb)
                  replace HO326 := Ω5 (Rb HO326.out hb)
                  replace HO329 := Ω5 (Rb HO329.out hb)
                  replace HO334 := Ω5 (Rb HO334.out hb)
                  replace HO337 := Ω5 (Rb HO337.out hb)
                  replace BK242 := Ω5 (Bb BK242.out hb)
                  replace BK243 := Ω5 (Bb BK243.out hb)
                  replace BK266 := Ω5 (Bb BK266.out hb)
                  replace BK289 := Ω5 (Bb BK289.out hb)
                  replace HB := Ω5 (below_step (HBu HB.out) hb)
                  clear hb hbox hg
                  refine hK.out _ _ ⟨(ΩJ BK242.out 0).trans rfl, (ΩJ BK242.out 1).trans rfl, (ΩJ BK243.out 0).trans rfl, (ΩJ BK243.out 1).trans rfl, (ΩJ BK243.out 2).trans rfl, (ΩJ BK243.out 3).trans rfl⟩ (fun hHeld => ?_)
                  clear hK K
                  refine norm_ (a' := ?_) ?_ ?_
                  rotate_left
                  ·show Act.put _ (some 13) _ = _
                   simp only [Act.put, List.setIfInBounds_toArray, List.set_cons_zero, List.set_cons_succ, i64_w, i32_w]
                   rfl
                  exact norm_ (by simp only [putAll, Act.put, List.setIfInBounds_toArray, List.set_cons_zero, List.set_cons_succ]) (hCont (.slice Ao142 t318.length co142, .slice Ao143 t321.length co143, .slice Ao144 t324.length co144, .slice Ao145 t327.length co145, v333, v336, gb338) _ ⟨hHeld, (Ru (ΩE HO320.out (fun _ hk => ⟨hk.1.1.1.1.1.1.1.1, ⟨hk.1.1.1.2, ⟨hk.1.1.2, ⟨hk.1.2, ⟨hk.2, ⟨hk.1.1.1.1.1.1.1.2, ⟨hk.1.1.1.1.1.1.2, ⟨hk.1.1.1.1.1.2, hk.1.1.1.1.2⟩⟩⟩⟩⟩⟩⟩⟩))), (Ru (ΩE HO323.out (fun _ hk => ⟨hk.1.1.1.1.1.1.1.1, ⟨hk.1.1.1.2, ⟨hk.1.1.2, ⟨hk.1.2, ⟨hk.2, ⟨hk.1.1.1.1.1.1.1.2, ⟨hk.1.1.1.1.1.1.2, ⟨hk.1.1.1.1.1.2, hk.1.1.1.1.2⟩⟩⟩⟩⟩⟩⟩⟩))), (Ru (ΩE HO326.out (fun _ hk => ⟨hk.1.1.1.2, ⟨hk.1.1.2, ⟨hk.1.1.1.1.1.1.1.1, ⟨hk.1.2, ⟨hk.2, ⟨hk.1.1.1.1.1.1.1.2, ⟨hk.1.1.1.1.1.1.2, ⟨hk.1.1.1.1.1.2, hk.1.1.1.1.2⟩⟩⟩⟩⟩⟩⟩⟩))), (Ru (ΩE HO329.out (fun _ hk => ⟨hk.1.1.1.2, ⟨hk.1.1.2, ⟨hk.1.1.1.1.1.1.1.1, ⟨hk.1.2, ⟨hk.2, ⟨hk.1.1.1.1.1.1.1.2, ⟨hk.1.1.1.1.1.1.2, ⟨hk.1.1.1.1.1.2, hk.1.1.1.1.2⟩⟩⟩⟩⟩⟩⟩⟩))), (Ru (ΩE HO334.out (fun _ hk => ⟨hk.1.1.1.2, ⟨hk.1.1.2, ⟨hk.1.2, ⟨hk.2, ⟨hk.1.1.1.1.1.1.1.1, ⟨hk.1.1.1.1.1.1.1.2, ⟨hk.1.1.1.1.1.1.2, ⟨hk.1.1.1.1.1.2, hk.1.1.1.1.2⟩⟩⟩⟩⟩⟩⟩⟩))), (Ru (ΩE HO337.out (fun _ hk => ⟨hk.1.1.1.2, ⟨hk.1.1.2, ⟨hk.1.2, ⟨hk.2, ⟨hk.1.1.1.1.1.1.1.1, ⟨hk.1.1.1.1.1.1.1.2, ⟨hk.1.1.1.1.1.1.2, ⟨hk.1.1.1.1.1.2, hk.1.1.1.1.2⟩⟩⟩⟩⟩⟩⟩⟩))), (Ru (ΩE HO_267000.out (fun _ hk => ⟨hk.1.1.1.1.1.2, ⟨hk.1.1.1.1.2, ⟨hk.1.1.1.2, ⟨hk.1.1.2, ⟨hk.1.2, ⟨hk.2, ⟨hk.1.1.1.1.1.1.1, ⟨hk.1.1.1.1.1.1.2.1, hk.1.1.1.1.1.1.2.2⟩⟩⟩⟩⟩⟩⟩⟩))), (Ru (ΩE HO_267001.out (fun _ hk => ⟨hk.1.1.1.1.1.2, ⟨hk.1.1.1.1.2, ⟨hk.1.1.1.2, ⟨hk.1.1.2, ⟨hk.1.2, ⟨hk.2, ⟨hk.1.1.1.1.1.1.1, ⟨hk.1.1.1.1.1.1.2.1, hk.1.1.1.1.1.1.2.2⟩⟩⟩⟩⟩⟩⟩⟩))), (Ru (ΩE HO_290000.out (fun _ hk => ⟨hk.1.1.1.1.1.2, ⟨hk.1.1.1.1.2, ⟨hk.1.1.1.2, ⟨hk.1.1.2, ⟨hk.1.2, ⟨hk.2, ⟨hk.1.1.1.1.1.1.1, ⟨hk.1.1.1.1.1.1.2.1, hk.1.1.1.1.1.1.2.2⟩⟩⟩⟩⟩⟩⟩⟩))), (Ru (ΩE HO_290001.out (fun _ hk => ⟨hk.1.1.1.1.1.2, ⟨hk.1.1.1.1.2, ⟨hk.1.1.1.2, ⟨hk.1.1.2, ⟨hk.1.2, ⟨hk.2, ⟨hk.1.1.1.1.1.1.1, ⟨hk.1.1.1.1.1.1.2.1, hk.1.1.1.1.1.1.2.2⟩⟩⟩⟩⟩⟩⟩⟩))), (Bu BK242.out), (Bu BK243.out), (Bu BK266.out), (Bu BK289.out), (Bu BK338.out), GW338.out, GE338.out, NB242_338.out, NB338_242.out, NB243_338.out, NB338_243.out, NB266_338.out, NB338_266.out, NB289_338.out, NB338_289.out, (HBu HB.out)⟩)
                 ·skip
                  refine box_step ?hg (N := 13) ?hd (cs := #[.slice none 0 0, .slice none 0 0]) (t := 26) ?hr ?_; (case hd => rfl); (case hg => rfl); (case hr => first | (go_simp; done) | (go_simp; rfl))
                  intro gb338 hg w142 hbox hb
                  have BK338 := Ω5 (hbox)
                  have GW338 := Ω5 ((by rw [hg]; exact (below_size (HBu HB.out)) : w.heap.size ≤ gb338))
                  have GE338 := Ω5 ((by rw [hg]; exact (below_size (HBu HB.out)) : w.heap.size ≤ gb338))
                  have NB242_338 := Ω5 ((by rw [hg]; exact Nat.ne_of_lt (blk_lt (g := gb242) (o := .cells #[.slice A0_0 l0_0.length c0_0, .slice A0_1 l0_1.length c0_1] 24 (0, 0)) (Bu BK242.out)) : gb242 ≠ gb338))
                  have NB338_242 := Ω5 ((by rw [hg]; exact Nat.ne_of_gt (blk_lt (g := gb242) (o := .cells #[.slice A0_0 l0_0.length c0_0, .slice A0_1 l0_1.length c0_1] 24 (0, 0)) (Bu BK242.out)) : gb338 ≠ gb242))
                  have NB243_338 := Ω5 ((by rw [hg]; exact Nat.ne_of_lt (blk_lt (g := gb243) (o := .cells #[.slice A1_0 l1_0.length c1_0, .slice A1_1 l1_1.length c1_1, .int .i64 a1_2, .int .i64 a1_3] 33 (0, 0)) (Bu BK243.out)) : gb243 ≠ gb338))
                  have NB338_243 := Ω5 ((by rw [hg]; exact Nat.ne_of_gt (blk_lt (g := gb243) (o := .cells #[.slice A1_0 l1_0.length c1_0, .slice A1_1 l1_1.length c1_1, .int .i64 a1_2, .int .i64 a1_3] 33 (0, 0)) (Bu BK243.out)) : gb338 ≠ gb243))
                  have NB266_338 := Ω5 ((by rw [hg]; exact Nat.ne_of_lt (blk_lt (g := gb266) (o := .cells #[.slice Ao53 t260.length co53, .slice Ao55 t263.length co55] 26 (0, 0)) (Bu BK266.out)) : gb266 ≠ gb338))
                  have NB338_266 := Ω5 ((by rw [hg]; exact Nat.ne_of_gt (blk_lt (g := gb266) (o := .cells #[.slice Ao53 t260.length co53, .slice Ao55 t263.length co55] 26 (0, 0)) (Bu BK266.out)) : gb338 ≠ gb266))
                  have NB289_338 := Ω5 ((by rw [hg]; exact Nat.ne_of_lt (blk_lt (g := gb289) (o := .cells #[.slice Ao81 t283.length co81, .slice Ao88 t286.length co88] 26 (0, 0)) (Bu BK289.out)) : gb289 ≠ gb338))
                  have NB338_289 := Ω5 ((by rw [hg]; exact Nat.ne_of_gt (blk_lt (g := gb289) (o := .cells #[.slice Ao81 t283.length co81, .slice Ao88 t286.length co88] 26 (0, 0)) (Bu BK289.out)) : gb338 ≠ gb289))
                  replace HO_267000 := Ω5 (Rb HO_267000.out hb)
                  replace HO_267001 := Ω5 (Rb HO_267001.out hb)
                  replace HO_290000 := Ω5 (Rb HO_290000.out hb)
                  replace HO_290001 := Ω5 (Rb HO_290001.out hb)
                  replace HO320 := Ω5 (Rb HO320.out hb)
                  replace HO323 := Ω5 (Rb HO323.out hb)
                  replace HO326 := Ω5 (Rb HO326.out hb)
                  replace HO329 := Ω5 (Rb HO329.out hb)
                  replace BK242 := Ω5 (Bb BK242.out hb)
                  replace BK243 := Ω5 (Bb BK243.out hb)
                  replace BK266 := Ω5 (Bb BK266.out hb)
                  replace BK289 := Ω5 (Bb BK289.out hb)
                  replace HB := Ω5 (below_step (HBu HB.out) hb)
                  clear hb hbox hg
                  obtain ⟨Ao143, co143, eo143⟩ := Kd.R_slice HO320.out
                  (first | subst eo143 | (injection eo143 with f1_ f2_ f3_; have f4_ := f1_.symm; have f5_ := f3_.symm; clear f1_ f2_ f3_; subst f4_; subst f5_))
                  obtain ⟨Ao144, co144, eo144⟩ := Kd.R_slice HO323.out
                  (first | subst eo144 | (injection eo144 with f1_ f2_ f3_; have f4_ := f1_.symm; have f5_ := f3_.symm; clear f1_ f2_ f3_; subst f4_; subst f5_))
                  obtain ⟨Ao145, co145, eo145⟩ := Kd.R_slice HO326.out
                  (first | subst eo145 | (injection eo145 with f1_ f2_ f3_; have f4_ := f1_.symm; have f5_ := f3_.symm; clear f1_ f2_ f3_; subst f4_; subst f5_))
                  obtain ⟨Ao146, co146, eo146⟩ := Kd.R_slice HO329.out
                  (first | subst eo146 | (injection eo146 with f1_ f2_ f3_; have f4_ := f1_.symm; have f5_ := f3_.symm; clear f1_ f2_ f3_; subst f4_; subst f5_))
                  refine hK.out _ _ ⟨(ΩJ BK242.out 0).trans rfl, (ΩJ BK242.out 1).trans rfl, (ΩJ BK243.out 0).trans rfl, (ΩJ BK243.out 1).trans rfl, (ΩJ BK243.out 2).trans rfl, (ΩJ BK243.out 3).trans rfl⟩ (fun hHeld => ?_)
                  clear hK K
                  refine norm_ (a' := ?_) ?_ ?_
                  rotate_left
                  ·show Act.put _ (some 13) _ = _
                   simp only [Act.put, List.setIfInBounds_toArray, List.set_cons_zero, List.set_cons_succ, i64_w, i32_w]
                   rfl
                  refine one_ (i := 4) (N := some 79) #[true, true, true, true, true, true, false] rfl rfl (by kernel_rfl) (by decide) (fun K hK => ?_)
                  refine goes_ Try.func19 (by kernel_rfl) rfl #[.agg #[.slice Ao143 t318.length co143, .slice Ao144 t321.length co144], .agg #[.slice Ao145 t324.length co145, .slice Ao146 t327.length co146, .int .i64 t330, .int .i64 t331]] (by rfl) rfl rfl (by (try simp only [List.map_toArray, List.map_cons, List.map_nil]); first | done | rfl | (simp only [List.length_drop, List.length_take]; rfl)) ?_
                  with_reducible refine (impl_Look.calls kj34 _ _ t318 _ _ t321 _ _ t324 _ _ t327 t330 t331 t332 t335 _ ?side1 ?side2 ?side3 ?side4 ?side5 ?side6 ?side7 ?side8 A126.out).mono ?_
                  (case side1 => exact (Cu ((Kd.R_reads' HO320.out).2.2)))
                  (case side2 => exact (Kd.R_reads' HO320.out).2.1)
                  (case side3 => exact (Cu ((Kd.R_reads' HO323.out).2.2)))
                  (case side4 => exact (Kd.R_reads' HO323.out).2.1)
                  (case side5 => exact (Cu ((Kd.R_reads' HO326.out).2.2)))
                  (case side6 => exact (Kd.R_reads' HO326.out).2.1)
                  (case side7 => exact (Cu ((Kd.R_reads' HO329.out).2.2)))
                  (case side8 => exact (Kd.R_reads' HO329.out).2.1)
                  rintro e w147 ⟨v333, v336, rfl, ho0, ho1, hb⟩
                  refine ⟨_, rfl, ?_⟩
                  have HO334 := Ω5 (Kd.R_lower (Kd.R_new' (Kd.R_new' (Kd.R_new' (Kd.R_new' (Kd.R_new' (Kd.R_new' (Kd.R_new' (Kd.R_new' ho0 (Kd.R_lt (Ru HO_267000.out))) (Kd.R_lt (Ru HO_267001.out))) (Kd.R_lt (Ru HO_290000.out))) (Kd.R_lt (Ru HO_290001.out))) (Kd.R_lt (Ru HO320.out))) (Kd.R_lt (Ru HO323.out))) (Kd.R_lt (Ru HO326.out))) (Kd.R_lt (Ru HO329.out))) (below_size (HBu HB.out)))
                  have HO337 := Ω5 (Kd.R_lower (Kd.R_new' (Kd.R_new' (Kd.R_new' (Kd.R_new' (Kd.R_new' (Kd.R_new' (Kd.R_new' (Kd.R_new' ho1 (Kd.R_lt (Ru HO_267000.out))) (Kd.R_lt (Ru HO_267001.out))) (Kd.R_lt (Ru HO_290000.out))) (Kd.R_lt (Ru HO_290001.out))) (Kd.R_lt (Ru HO320.out))) (Kd.R_lt (Ru HO323.out))) (Kd.R_lt (Ru HO326.out))) (Kd.R_lt (Ru HO329.out))) (below_size (HBu HB.out)))
                  replace HO_267000 := Ω5 (Rt2 HO_267000.out hb ho0 ho1)
                  replace HO_267001 := Ω5 (Rt2 HO_267001.out hb ho0 ho1)
                  replace HO_290000 := Ω5 (Rt2 HO_290000.out hb ho0 ho1)
                  replace HO_290001 := Ω5 (Rt2 HO_290001.out hb ho0 ho1)
                  replace HO320 := Ω5 (Rt2 HO320.out hb ho0 ho1)
                  replace HO323 := Ω5 (Rt2 HO323.out hb ho0 ho1)
                  replace HO326 := Ω5 (Rt2 HO326.out hb ho0 ho1)
                  replace HO329 := Ω5 (Rt2 HO329.out hb ho0 ho1)
                  replace BK242 := Ω5 (Bb BK242.out hb)
                  replace BK243 := Ω5 (Bb BK243.out hb)
                  replace BK266 := Ω5 (Bb BK266.out hb)
                  replace BK289 := Ω5 (Bb BK289.out hb)
                  replace BK338 := Ω5 (Bb BK338.out hb)
                  replace HB := Ω5 (below_step (HBu HB.out) hb)
                  (try clear hb)
                  (try clear hb2)
                  (try clear hk)
                  (try clear hi)
                  (try clear ho0)
                  (try clear ho1)
                  refine hK.out _ _ ⟨(ΩJ BK242.out 0).trans rfl, (ΩJ BK242.out 1).trans rfl, (ΩJ BK243.out 0).trans rfl, (ΩJ BK243.out 1).trans rfl, (ΩJ BK243.out 2).trans rfl, (ΩJ BK243.out 3).trans rfl⟩ (fun hHeld => ?_)
                  clear hK K
                  refine norm_ (a' := ?_) ?_ ?_
                  rotate_left
                  ·show Act.put _ (some 79) _ = _
                   simp only [Act.put, List.setIfInBounds_toArray, List.set_cons_zero, List.set_cons_succ, i64_w, i32_w]
                   rfl
                  exact norm_ (by simp only [putAll, Act.put, List.setIfInBounds_toArray, List.set_cons_zero, List.set_cons_succ]) (hCont (.slice Ao143 t318.length co143, .slice Ao144 t321.length co144, .slice Ao145 t324.length co145, .slice Ao146 t327.length co146, v333, v336, gb338) _ ⟨hHeld, (Ru (ΩE HO320.out (fun _ hk => ⟨hk.1.1.1.1.1.1.1.1, ⟨hk.1.1.1.2, ⟨hk.1.1.2, ⟨hk.1.2, ⟨hk.2, ⟨hk.1.1.1.1.1.1.1.2, ⟨hk.1.1.1.1.1.1.2, ⟨hk.1.1.1.1.1.2, hk.1.1.1.1.2⟩⟩⟩⟩⟩⟩⟩⟩))), (Ru (ΩE HO323.out (fun _ hk => ⟨hk.1.1.1.1.1.1.1.1, ⟨hk.1.1.1.2, ⟨hk.1.1.2, ⟨hk.1.2, ⟨hk.2, ⟨hk.1.1.1.1.1.1.1.2, ⟨hk.1.1.1.1.1.1.2, ⟨hk.1.1.1.1.1.2, hk.1.1.1.1.2⟩⟩⟩⟩⟩⟩⟩⟩))), (Ru (ΩE HO326.out (fun _ hk => ⟨hk.1.1.1.2, ⟨hk.1.1.2, ⟨hk.1.1.1.1.1.1.1.1, ⟨hk.1.2, ⟨hk.2, ⟨hk.1.1.1.1.1.1.1.2, ⟨hk.1.1.1.1.1.1.2, ⟨hk.1.1.1.1.1.2, hk.1.1.1.1.2⟩⟩⟩⟩⟩⟩⟩⟩))), (Ru (ΩE HO329.out (fun _ hk => ⟨hk.1.1.1.2, ⟨hk.1.1.2, ⟨hk.1.1.1.1.1.1.1.1, ⟨hk.1.2, ⟨hk.2, ⟨hk.1.1.1.1.1.1.1.2, ⟨hk.1.1.1.1.1.1.2, ⟨hk.1.1.1.1.1.2, hk.1.1.1.1.2⟩⟩⟩⟩⟩⟩⟩⟩))), (Ru (ΩE HO334.out (fun _ hk => ⟨hk.1.1.1.2, ⟨hk.1.1.2, ⟨hk.1.2, ⟨hk.2, ⟨hk.1.1.1.1.1.1.1.1, ⟨hk.1.1.1.1.1.1.1.2, ⟨hk.1.1.1.1.1.1.2, ⟨hk.1.1.1.1.1.2, hk.1.1.1.1.2⟩⟩⟩⟩⟩⟩⟩⟩))), (Ru (ΩE HO337.out (fun _ hk => ⟨hk.1.1.1.2, ⟨hk.1.1.2, ⟨hk.1.2, ⟨hk.2, ⟨hk.1.1.1.1.1.1.1.1, ⟨hk.1.1.1.1.1.1.1.2, ⟨hk.1.1.1.1.1.1.2, ⟨hk.1.1.1.1.1.2, hk.1.1.1.1.2⟩⟩⟩⟩⟩⟩⟩⟩))), (Ru (ΩE HO_267000.out (fun _ hk => ⟨hk.1.1.1.1.1.2, ⟨hk.1.1.1.1.2, ⟨hk.1.1.1.2, ⟨hk.1.1.2, ⟨hk.1.2, ⟨hk.2, ⟨hk.1.1.1.1.1.1.1, ⟨hk.1.1.1.1.1.1.2.1, hk.1.1.1.1.1.1.2.2⟩⟩⟩⟩⟩⟩⟩⟩))), (Ru (ΩE HO_267001.out (fun _ hk => ⟨hk.1.1.1.1.1.2, ⟨hk.1.1.1.1.2, ⟨hk.1.1.1.2, ⟨hk.1.1.2, ⟨hk.1.2, ⟨hk.2, ⟨hk.1.1.1.1.1.1.1, ⟨hk.1.1.1.1.1.1.2.1, hk.1.1.1.1.1.1.2.2⟩⟩⟩⟩⟩⟩⟩⟩))), (Ru (ΩE HO_290000.out (fun _ hk => ⟨hk.1.1.1.1.1.2, ⟨hk.1.1.1.1.2, ⟨hk.1.1.1.2, ⟨hk.1.1.2, ⟨hk.1.2, ⟨hk.2, ⟨hk.1.1.1.1.1.1.1, ⟨hk.1.1.1.1.1.1.2.1, hk.1.1.1.1.1.1.2.2⟩⟩⟩⟩⟩⟩⟩⟩))), (Ru (ΩE HO_290001.out (fun _ hk => ⟨hk.1.1.1.1.1.2, ⟨hk.1.1.1.1.2, ⟨hk.1.1.1.2, ⟨hk.1.1.2, ⟨hk.1.2, ⟨hk.2, ⟨hk.1.1.1.1.1.1.1, ⟨hk.1.1.1.1.1.1.2.1, hk.1.1.1.1.1.1.2.2⟩⟩⟩⟩⟩⟩⟩⟩))), (Bu BK242.out), (Bu BK243.out), (Bu BK266.out), (Bu BK289.out), (Bu BK338.out), GW338.out, GE338.out, NB242_338.out, NB338_242.out, NB243_338.out, NB338_243.out, NB266_338.out, NB338_266.out, NB289_338.out, NB338_289.out, (HBu HB.out)⟩)
                ·skip
                 refine box_step ?hg (N := 13) ?hd (cs := #[.slice none 0 0, .slice none 0 0]) (t := 26) ?hr ?_; (case hd => rfl); (case hg => rfl); (case hr => first | (go_simp; done) | (go_simp; rfl))
                 intro gb338 hg w141 hbox hb
                 have BK338 := Ω5 (hbox)
                 have GW338 := Ω5 ((by rw [hg]; exact (below_size (HBu HB.out)) : w.heap.size ≤ gb338))
                 have GE338 := Ω5 ((by rw [hg]; exact (below_size (HBu HB.out)) : w.heap.size ≤ gb338))
                 have NB242_338 := Ω5 ((by rw [hg]; exact Nat.ne_of_lt (blk_lt (g := gb242) (o := .cells #[.slice A0_0 l0_0.length c0_0, .slice A0_1 l0_1.length c0_1] 24 (0, 0)) (Bu BK242.out)) : gb242 ≠ gb338))
                 have NB338_242 := Ω5 ((by rw [hg]; exact Nat.ne_of_gt (blk_lt (g := gb242) (o := .cells #[.slice A0_0 l0_0.length c0_0, .slice A0_1 l0_1.length c0_1] 24 (0, 0)) (Bu BK242.out)) : gb338 ≠ gb242))
                 have NB243_338 := Ω5 ((by rw [hg]; exact Nat.ne_of_lt (blk_lt (g := gb243) (o := .cells #[.slice A1_0 l1_0.length c1_0, .slice A1_1 l1_1.length c1_1, .int .i64 a1_2, .int .i64 a1_3] 33 (0, 0)) (Bu BK243.out)) : gb243 ≠ gb338))
                 have NB338_243 := Ω5 ((by rw [hg]; exact Nat.ne_of_gt (blk_lt (g := gb243) (o := .cells #[.slice A1_0 l1_0.length c1_0, .slice A1_1 l1_1.length c1_1, .int .i64 a1_2, .int .i64 a1_3] 33 (0, 0)) (Bu BK243.out)) : gb338 ≠ gb243))
                 have NB266_338 := Ω5 ((by rw [hg]; exact Nat.ne_of_lt (blk_lt (g := gb266) (o := .cells #[.slice Ao53 t260.length co53, .slice Ao55 t263.length co55] 26 (0, 0)) (Bu BK266.out)) : gb266 ≠ gb338))
                 have NB338_266 := Ω5 ((by rw [hg]; exact Nat.ne_of_gt (blk_lt (g := gb266) (o := .cells #[.slice Ao53 t260.length co53, .slice Ao55 t263.length co55] 26 (0, 0)) (Bu BK266.out)) : gb338 ≠ gb266))
                 have NB289_338 := Ω5 ((by rw [hg]; exact Nat.ne_of_lt (blk_lt (g := gb289) (o := .cells #[.slice Ao81 t283.length co81, .slice Ao88 t286.length co88] 26 (0, 0)) (Bu BK289.out)) : gb289 ≠ gb338))
                 have NB338_289 := Ω5 ((by rw [hg]; exact Nat.ne_of_gt (blk_lt (g := gb289) (o := .cells #[.slice Ao81 t283.length co81, .slice Ao88 t286.length co88] 26 (0, 0)) (Bu BK289.out)) : gb338 ≠ gb289))
                 replace HO_267000 := Ω5 (Rb HO_267000.out hb)
                 replace HO_267001 := Ω5 (Rb HO_267001.out hb)
                 replace HO_290000 := Ω5 (Rb HO_290000.out hb)
                 replace HO_290001 := Ω5 (Rb HO_290001.out hb)
                 replace HO320 := Ω5 (Rb HO320.out hb)
                 replace HO323 := Ω5 (Rb HO323.out hb)
                 replace BK242 := Ω5 (Bb BK242.out hb)
                 replace BK243 := Ω5 (Bb BK243.out hb)
                 replace BK266 := Ω5 (Bb BK266.out hb)
                 replace BK289 := Ω5 (Bb BK289.out hb)
                 replace HB := Ω5 (below_step (HBu HB.out) hb)
                 clear hb hbox hg
                 refine hK.out _ _ ⟨(ΩJ BK242.out 0).trans rfl, (ΩJ BK242.out 1).trans rfl, (ΩJ BK243.out 0).trans rfl, (ΩJ BK243.out 1).trans rfl, (ΩJ BK243.out 2).trans rfl, (ΩJ BK243.out 3).trans rfl⟩ (fun hHeld => ?_)
                 clear hK K
                 refine norm_ (a' := ?_) ?_ ?_
                 rotate_left
                 ·show Act.put _ (some 13) _ = _
                  simp only [Act.put, List.setIfInBounds_toArray, List.set_cons_zero, List.set_cons_succ, i64_w, i32_w]
                  rfl
                 refine one_ (i := 3) (N := some 78) #[true, true, true, true, false, true, false] rfl rfl (by kernel_rfl) (by decide) (fun K hK => ?_)
                 refine goes_ Try.func18 (by kernel_rfl) rfl #[.agg #[.slice A1_0 l1_0.length c1_0, .slice A1_1 l1_1.length c1_1, .int .i64 a1_2, .int .i64 a1_3]] (by rfl) rfl rfl (by (try simp only [List.map_toArray, List.map_cons, List.map_nil]); first | done | rfl | (simp only [List.length_drop, List.length_take]; rfl)) ?_
                 with_reducible refine (laws_toView.calls kj34 _ _ l1_0 _ _ l1_1 a1_2 a1_3 t324 t327 t330 t331 _ ?side1 ?side2 ?side3 ?side4 A125.out).mono ?_
                 (case side1 => exact (Cu ((Kd.C_below HR1_0.out HB.out))))
                 (case side2 => exact HC1_0.out)
                 (case side3 => exact (Cu ((Kd.C_below HR1_1.out HB.out))))
                 (case side4 => exact HC1_1.out)
                 rintro e w142 ⟨v325, v328, rfl, ho0, ho1, hb⟩
                 refine ⟨_, rfl, ?_⟩
                 have HO326 := Ω5 (Kd.R_lower (Kd.R_new' (Kd.R_new' (Kd.R_new' (Kd.R_new' (Kd.R_new' (Kd.R_new' ho0 (Kd.R_lt (Ru HO_267000.out))) (Kd.R_lt (Ru HO_267001.out))) (Kd.R_lt (Ru HO_290000.out))) (Kd.R_lt (Ru HO_290001.out))) (Kd.R_lt (Ru HO320.out))) (Kd.R_lt (Ru HO323.out))) (below_size (HBu HB.out)))
                 have HO329 := Ω5 (Kd.R_lower (Kd.R_new' (Kd.R_new' (Kd.R_new' (Kd.R_new' (Kd.R_new' (Kd.R_new' ho1 (Kd.R_lt (Ru HO_267000.out))) (Kd.R_lt (Ru HO_267001.out))) (Kd.R_lt (Ru HO_290000.out))) (Kd.R_lt (Ru HO_290001.out))) (Kd.R_lt (Ru HO320.out))) (Kd.R_lt (Ru HO323.out))) (below_size (HBu HB.out)))
                 replace HO_267000 := Ω5 (Rt2 HO_267000.out hb ho0 ho1)
                 replace HO_267001 := Ω5 (Rt2 HO_267001.out hb ho0 ho1)
                 replace HO_290000 := Ω5 (Rt2 HO_290000.out hb ho0 ho1)
                 replace HO_290001 := Ω5 (Rt2 HO_290001.out hb ho0 ho1)
                 replace HO320 := Ω5 (Rt2 HO320.out hb ho0 ho1)
                 replace HO323 := Ω5 (Rt2 HO323.out hb ho0 ho1)
                 replace BK242 := Ω5 (Bb BK242.out hb)
                 replace BK243 := Ω5 (Bb BK243.out hb)
                 replace BK266 := Ω5 (Bb BK266.out hb)
                 replace BK289 := Ω5 (Bb BK289.out hb)
                 replace BK338 := Ω5 (Bb BK338.out hb)
                 replace HB := Ω5 (below_step (HBu HB.out) hb)
                 (try clear hb)
                 (try clear hb2)
                 (try clear hk)
                 (try clear hi)
                 (try clear ho0)
                 (try clear ho1)
                 obtain ⟨Ao143, co143, eo143⟩ := Kd.R_slice HO320.out
                 (first | subst eo143 | (injection eo143 with f1_ f2_ f3_; have f4_ := f1_.symm; have f5_ := f3_.symm; clear f1_ f2_ f3_; subst f4_; subst f5_))
                 obtain ⟨Ao144, co144, eo144⟩ := Kd.R_slice HO323.out
                 (first | subst eo144 | (injection eo144 with f1_ f2_ f3_; have f4_ := f1_.symm; have f5_ := f3_.symm; clear f1_ f2_ f3_; subst f4_; subst f5_))
                 obtain ⟨Ao145, co145, eo145⟩ := Kd.R_slice HO326.out
                 (first | subst eo145 | (injection eo145 with f1_ f2_ f3_; have f4_ := f1_.symm; have f5_ := f3_.symm; clear f1_ f2_ f3_; subst f4_; subst f5_))
                 obtain ⟨Ao146, co146, eo146⟩ := Kd.R_slice HO329.out
                 (first | subst eo146 | (injection eo146 with f1_ f2_ f3_; have f4_ := f1_.symm; have f5_ := f3_.symm; clear f1_ f2_ f3_; subst f4_; subst f5_))
                 refine hK.out _ _ ⟨(ΩJ BK242.out 0).trans rfl, (ΩJ BK242.out 1).trans rfl, (ΩJ BK243.out 0).trans rfl, (ΩJ BK243.out 1).trans rfl, (ΩJ BK243.out 2).trans rfl, (ΩJ BK243.out 3).trans rfl⟩ (fun hHeld => ?_)
                 clear hK K
                 refine norm_ (a' := ?_) ?_ ?_
                 rotate_left
                 ·show Act.put _ (some 78) _ = _
                  simp only [Act.put, List.setIfInBounds_toArray, List.set_cons_zero, List.set_cons_succ, i64_w, i32_w]
                  rfl
                 refine one_ (i := 4) (N := some 79) #[true, true, true, true, true, true, false] rfl rfl (by kernel_rfl) (by decide) (fun K hK => ?_)
                 refine goes_ Try.func19 (by kernel_rfl) rfl #[.agg #[.slice Ao143 t318.length co143, .slice Ao144 t321.length co144], .agg #[.slice Ao145 t324.length co145, .slice Ao146 t327.length co146, .int .i64 t330, .int .i64 t331]] (by rfl) rfl rfl (by (try simp only [List.map_toArray, List.map_cons, List.map_nil]); first | done | rfl | (simp only [List.length_drop, List.length_take]; rfl)) ?_
                 with_reducible refine (impl_Look.calls kj34 _ _ t318 _ _ t321 _ _ t324 _ _ t327 t330 t331 t332 t335 _ ?side1 ?side2 ?side3 ?side4 ?side5 ?side6 ?side7 ?side8 A126.out).mono ?_
                 (case side1 => exact (Cu ((Kd.R_reads' HO320.out).2.2)))
                 (case side2 => exact (Kd.R_reads' HO320.out).2.1)
                 (case side3 => exact (Cu ((Kd.R_reads' HO323.out).2.2)))
                 (case side4 => exact (Kd.R_reads' HO323.out).2.1)
                 (case side5 => exact (Cu ((Kd.R_reads' HO326.out).2.2)))
                 (case side6 => exact (Kd.R_reads' HO326.out).2.1)
                 (case side7 => exact (Cu ((Kd.R_reads' HO329.out).2.2)))
                 (case side8 => exact (Kd.R_reads' HO329.out).2.1)
                 rintro e w147 ⟨v333, v336, rfl, ho0, ho1, hb⟩
                 refine ⟨_, rfl, ?_⟩
                 have HO334 := Ω5 (Kd.R_lower (Kd.R_new' (Kd.R_new' (Kd.R_new' (Kd.R_new' (Kd.R_new' (Kd.R_new' (Kd.R_new' (Kd.R_new' ho0 (Kd.R_lt (Ru HO_267000.out))) (Kd.R_lt (Ru HO_267001.out))) (Kd.R_lt (Ru HO_290000.out))) (Kd.R_lt (Ru HO_290001.out))) (Kd.R_lt (Ru HO320.out))) (Kd.R_lt (Ru HO323.out))) (Kd.R_lt (Ru HO326.out))) (Kd.R_lt (Ru HO329.out))) (below_size (HBu HB.out)))
                 have HO337 := Ω5 (Kd.R_lower (Kd.R_new' (Kd.R_new' (Kd.R_new' (Kd.R_new' (Kd.R_new' (Kd.R_new' (Kd.R_new' (Kd.R_new' ho1 (Kd.R_lt (Ru HO_267000.out))) (Kd.R_lt (Ru HO_267001.out))) (Kd.R_lt (Ru HO_290000.out))) (Kd.R_lt (Ru HO_290001.out))) (Kd.R_lt (Ru HO320.out))) (Kd.R_lt (Ru HO323.out))) (Kd.R_lt (Ru HO326.out))) (Kd.R_lt (Ru HO329.out))) (below_size (HBu HB.out)))
                 replace HO_267000 := Ω5 (Rt2 HO_267000.out hb ho0 ho1)
                 replace HO_267001 := Ω5 (Rt2 HO_267001.out hb ho0 ho1)
                 replace HO_290000 := Ω5 (Rt2 HO_290000.out hb ho0 ho1)
                 replace HO_290001 := Ω5 (Rt2 HO_290001.out hb ho0 ho1)
                 replace HO320 := Ω5 (Rt2 HO320.out hb ho0 ho1)
                 replace HO323 := Ω5 (Rt2 HO323.out hb ho0 ho1)
                 replace HO326 := Ω5 (Rt2 HO326.out hb ho0 ho1)
                 replace HO329 := Ω5 (Rt2 HO329.out hb ho0 ho1)
                 replace BK242 := Ω5 (Bb BK242.out hb)
                 replace BK243 := Ω5 (Bb BK243.out hb)
                 replace BK266 := Ω5 (Bb BK266.out hb)
                 replace BK289 := Ω5 (Bb BK289.out hb)
                 replace BK338 := Ω5 (Bb BK338.out hb)
                 replace HB := Ω5 (below_step (HBu HB.out) hb)
                 (try clear hb)
                 (try clear hb2)
                 (try clear hk)
                 (try clear hi)
                 (try clear ho0)
                 (try clear ho1)
                 refine hK.out _ _ ⟨(ΩJ BK242.out 0).trans rfl, (ΩJ BK242.out 1).trans rfl, (ΩJ BK243.out 0).trans rfl, (ΩJ BK243.out 1).trans rfl, (ΩJ BK243.out 2).trans rfl, (ΩJ BK243.out 3).trans rfl⟩ (fun hHeld => ?_)
                 clear hK K
                 refine norm_ (a' := ?_) ?_ ?_
                 rotate_left
                 ·show Act.put _ (some 79) _ = _
                  simp only [Act.put, List.setIfInBounds_toArray, List.set_cons_zero, List.set_cons_succ, i64_w, i32_w]
                  rfl
                 exact norm_ (by simp only [putAll, Act.put, List.setIfInBounds_toArray, List.set_cons_zero, List.set_cons_succ]) (hCont (.slice Ao143 t318.length co143, .slice Ao144 t321.length co144, .slice Ao145 t324.length co145, .slice Ao146 t327.length co146, v333, v336, gb338) _ ⟨hHeld, (Ru (ΩE HO320.out (fun _ hk => ⟨hk.1.1.1.1.1.1.1.1, ⟨hk.1.1.1.2, ⟨hk.1.1.2, ⟨hk.1.2, ⟨hk.2, ⟨hk.1.1.1.1.1.1.1.2, ⟨hk.1.1.1.1.1.1.2, ⟨hk.1.1.1.1.1.2, hk.1.1.1.1.2⟩⟩⟩⟩⟩⟩⟩⟩))), (Ru (ΩE HO323.out (fun _ hk => ⟨hk.1.1.1.1.1.1.1.1, ⟨hk.1.1.1.2, ⟨hk.1.1.2, ⟨hk.1.2, ⟨hk.2, ⟨hk.1.1.1.1.1.1.1.2, ⟨hk.1.1.1.1.1.1.2, ⟨hk.1.1.1.1.1.2, hk.1.1.1.1.2⟩⟩⟩⟩⟩⟩⟩⟩))), (Ru (ΩE HO326.out (fun _ hk => ⟨hk.1.1.1.2, ⟨hk.1.1.2, ⟨hk.1.1.1.1.1.1.1.1, ⟨hk.1.2, ⟨hk.2, ⟨hk.1.1.1.1.1.1.1.2, ⟨hk.1.1.1.1.1.1.2, ⟨hk.1.1.1.1.1.2, hk.1.1.1.1.2⟩⟩⟩⟩⟩⟩⟩⟩))), (Ru (ΩE HO329.out (fun _ hk => ⟨hk.1.1.1.2, ⟨hk.1.1.2, ⟨hk.1.1.1.1.1.1.1.1, ⟨hk.1.2, ⟨hk.2, ⟨hk.1.1.1.1.1.1.1.2, ⟨hk.1.1.1.1.1.1.2, ⟨hk.1.1.1.1.1.2, hk.1.1.1.1.2⟩⟩⟩⟩⟩⟩⟩⟩))), (Ru (ΩE HO334.out (fun _ hk => ⟨hk.1.1.1.2, ⟨hk.1.1.2, ⟨hk.1.2, ⟨hk.2, ⟨hk.1.1.1.1.1.1.1.1, ⟨hk.1.1.1.1.1.1.1.2, ⟨hk.1.1.1.1.1.1.2, ⟨hk.1.1.1.1.1.2, hk.1.1.1.1.2⟩⟩⟩⟩⟩⟩⟩⟩))), (Ru (ΩE HO337.out (fun _ hk => ⟨hk.1.1.1.2, ⟨hk.1.1.2, ⟨hk.1.2, ⟨hk.2, ⟨hk.1.1.1.1.1.1.1.1, ⟨hk.1.1.1.1.1.1.1.2, ⟨hk.1.1.1.1.1.1.2, ⟨hk.1.1.1.1.1.2, hk.1.1.1.1.2⟩⟩⟩⟩⟩⟩⟩⟩))), (Ru (ΩE HO_267000.out (fun _ hk => ⟨hk.1.1.1.1.1.2, ⟨hk.1.1.1.1.2, ⟨hk.1.1.1.2, ⟨hk.1.1.2, ⟨hk.1.2, ⟨hk.2, ⟨hk.1.1.1.1.1.1.1, ⟨hk.1.1.1.1.1.1.2.1, hk.1.1.1.1.1.1.2.2⟩⟩⟩⟩⟩⟩⟩⟩))), (Ru (ΩE HO_267001.out (fun _ hk => ⟨hk.1.1.1.1.1.2, ⟨hk.1.1.1.1.2, ⟨hk.1.1.1.2, ⟨hk.1.1.2, ⟨hk.1.2, ⟨hk.2, ⟨hk.1.1.1.1.1.1.1, ⟨hk.1.1.1.1.1.1.2.1, hk.1.1.1.1.1.1.2.2⟩⟩⟩⟩⟩⟩⟩⟩))), (Ru (ΩE HO_290000.out (fun _ hk => ⟨hk.1.1.1.1.1.2, ⟨hk.1.1.1.1.2, ⟨hk.1.1.1.2, ⟨hk.1.1.2, ⟨hk.1.2, ⟨hk.2, ⟨hk.1.1.1.1.1.1.1, ⟨hk.1.1.1.1.1.1.2.1, hk.1.1.1.1.1.1.2.2⟩⟩⟩⟩⟩⟩⟩⟩))), (Ru (ΩE HO_290001.out (fun _ hk => ⟨hk.1.1.1.1.1.2, ⟨hk.1.1.1.1.2, ⟨hk.1.1.1.2, ⟨hk.1.1.2, ⟨hk.1.2, ⟨hk.2, ⟨hk.1.1.1.1.1.1.1, ⟨hk.1.1.1.1.1.1.2.1, hk.1.1.1.1.1.1.2.2⟩⟩⟩⟩⟩⟩⟩⟩))), (Bu BK242.out), (Bu BK243.out), (Bu BK266.out), (Bu BK289.out), (Bu BK338.out), GW338.out, GE338.out, NB242_338.out, NB338_242.out, NB243_338.out, NB338_243.out, NB266_338.out, NB338_266.out, NB289_338.out, NB338_289.out, (HBu HB.out)⟩)
               ·skip
                refine box_step ?hg (N := 13) ?hd (cs := #[.slice none 0 0, .slice none 0 0]) (t := 26) ?hr ?_; (case hd => rfl); (case hg => rfl); (case hr => first | (go_simp; done) | (go_simp; rfl))
                intro gb338 hg w140 hbox hb
                have BK338 := Ω5 (hbox)
                have GW338 := Ω5 ((by rw [hg]; exact (below_size (HBu HB.out)) : w.heap.size ≤ gb338))
                have GE338 := Ω5 ((by rw [hg]; exact (below_size (HBu HB.out)) : w.heap.size ≤ gb338))
                have NB242_338 := Ω5 ((by rw [hg]; exact Nat.ne_of_lt (blk_lt (g := gb242) (o := .cells #[.slice A0_0 l0_0.length c0_0, .slice A0_1 l0_1.length c0_1] 24 (0, 0)) (Bu BK242.out)) : gb242 ≠ gb338))
                have NB338_242 := Ω5 ((by rw [hg]; exact Nat.ne_of_gt (blk_lt (g := gb242) (o := .cells #[.slice A0_0 l0_0.length c0_0, .slice A0_1 l0_1.length c0_1] 24 (0, 0)) (Bu BK242.out)) : gb338 ≠ gb242))
                have NB243_338 := Ω5 ((by rw [hg]; exact Nat.ne_of_lt (blk_lt (g := gb243) (o := .cells #[.slice A1_0 l1_0.length c1_0, .slice A1_1 l1_1.length c1_1, .int .i64 a1_2, .int .i64 a1_3] 33 (0, 0)) (Bu BK243.out)) : gb243 ≠ gb338))
                have NB338_243 := Ω5 ((by rw [hg]; exact Nat.ne_of_gt (blk_lt (g := gb243) (o := .cells #[.slice A1_0 l1_0.length c1_0, .slice A1_1 l1_1.length c1_1, .int .i64 a1_2, .int .i64 a1_3] 33 (0, 0)) (Bu BK243.out)) : gb338 ≠ gb243))
                have NB266_338 := Ω5 ((by rw [hg]; exact Nat.ne_of_lt (blk_lt (g := gb266) (o := .cells #[.slice Ao53 t260.length co53, .slice Ao55 t263.length co55] 26 (0, 0)) (Bu BK266.out)) : gb266 ≠ gb338))
                have NB338_266 := Ω5 ((by rw [hg]; exact Nat.ne_of_gt (blk_lt (g := gb266) (o := .cells #[.slice Ao53 t260.length co53, .slice Ao55 t263.length co55] 26 (0, 0)) (Bu BK266.out)) : gb338 ≠ gb266))
                have NB289_338 := Ω5 ((by rw [hg]; exact Nat.ne_of_lt (blk_lt (g := gb289) (o := .cells #[.slice Ao81 t283.length co81, .slice Ao88 t286.length co88] 26 (0, 0)) (Bu BK289.out)) : gb289 ≠ gb338))
                have NB338_289 := Ω5 ((by rw [hg]; exact Nat.ne_of_gt (blk_lt (g := gb289) (o := .cells #[.slice Ao81 t283.length co81, .slice Ao88 t286.length co88] 26 (0, 0)) (Bu BK289.out)) : gb338 ≠ gb289))
                replace HO_267000 := Ω5 (Rb HO_267000.out hb)
                replace HO_267001 := Ω5 (Rb HO_267001.out hb)
                replace HO_290000 := Ω5 (Rb HO_290000.out hb)
                replace HO_290001 := Ω5 (Rb HO_290001.out hb)
                replace BK242 := Ω5 (Bb BK242.out hb)
                replace BK243 := Ω5 (Bb BK243.out hb)
                replace BK266 := Ω5 (Bb BK266.out hb)
                replace BK289 := Ω5 (Bb BK289.out hb)
                replace HB := Ω5 (below_step (HBu HB.out) hb)
                clear hb hbox hg
                refine hK.out _ _ ⟨(ΩJ BK242.out 0).trans rfl, (ΩJ BK242.out 1).trans rfl, (ΩJ BK243.out 0).trans rfl, (ΩJ BK243.out 1).trans rfl, (ΩJ BK243.out 2).trans rfl, (ΩJ BK243.out 3).trans rfl⟩ (fun hHeld => ?_)
                clear hK K
                refine norm_ (a' := ?_) ?_ ?_
                rotate_left
                ·show Act.put _ (some 13) _ = _
                 simp only [Act.put, List.setIfInBounds_toArray, List.set_cons_zero, List.set_cons_succ, i64_w, i32_w]
                 rfl
                refine one_ (i := 1) (N := some 76) #[true, true, true, false, false, true, false] rfl rfl (by kernel_rfl) (by decide) (fun K hK => ?_)
                refine goes_ Try.func11 (by kernel_rfl) rfl #[.agg #[.slice A0_0 l0_0.length c0_0, .slice A0_1 l0_1.length c0_1]] (by rfl) rfl rfl (by (try simp only [List.map_toArray, List.map_cons, List.map_nil]); first | done | rfl | (simp only [List.length_drop, List.length_take]; rfl)) ?_
                with_reducible refine (laws_toTensor.calls kj34 _ _ l0_0 _ _ l0_1 t318 t321 _ ?side1 ?side2 ?side3 ?side4 A124.out).mono ?_
                (case side1 => exact (Cu ((Kd.C_below HR0_0.out HB.out))))
                (case side2 => exact HC0_0.out)
                (case side3 => exact (Cu ((Kd.C_below HR0_1.out HB.out))))
                (case side4 => exact HC0_1.out)
                rintro e w141 ⟨v319, v322, rfl, ho0, ho1, hb⟩
                refine ⟨_, rfl, ?_⟩
                have HO320 := Ω5 (Kd.R_lower (Kd.R_new' (Kd.R_new' (Kd.R_new' (Kd.R_new' ho0 (Kd.R_lt (Ru HO_267000.out))) (Kd.R_lt (Ru HO_267001.out))) (Kd.R_lt (Ru HO_290000.out))) (Kd.R_lt (Ru HO_290001.out))) (below_size (HBu HB.out)))
                have HO323 := Ω5 (Kd.R_lower (Kd.R_new' (Kd.R_new' (Kd.R_new' (Kd.R_new' ho1 (Kd.R_lt (Ru HO_267000.out))) (Kd.R_lt (Ru HO_267001.out))) (Kd.R_lt (Ru HO_290000.out))) (Kd.R_lt (Ru HO_290001.out))) (below_size (HBu HB.out)))
                replace HO_267000 := Ω5 (Rt2 HO_267000.out hb ho0 ho1)
                replace HO_267001 := Ω5 (Rt2 HO_267001.out hb ho0 ho1)
                replace HO_290000 := Ω5 (Rt2 HO_290000.out hb ho0 ho1)
                replace HO_290001 := Ω5 (Rt2 HO_290001.out hb ho0 ho1)
                replace BK242 := Ω5 (Bb BK242.out hb)
                replace BK243 := Ω5 (Bb BK243.out hb)
                replace BK266 := Ω5 (Bb BK266.out hb)
                replace BK289 := Ω5 (Bb BK289.out hb)
                replace BK338 := Ω5 (Bb BK338.out hb)
                replace HB := Ω5 (below_step (HBu HB.out) hb)
                (try clear hb)
                (try clear hb2)
                (try clear hk)
                (try clear hi)
                (try clear ho0)
                (try clear ho1)
                refine hK.out _ _ ⟨(ΩJ BK242.out 0).trans rfl, (ΩJ BK242.out 1).trans rfl, (ΩJ BK243.out 0).trans rfl, (ΩJ BK243.out 1).trans rfl, (ΩJ BK243.out 2).trans rfl, (ΩJ BK243.out 3).trans rfl⟩ (fun hHeld => ?_)
                clear hK K
                refine norm_ (a' := ?_) ?_ ?_
                rotate_left
                ·show Act.put _ (some 76) _ = _
                 simp only [Act.put, List.setIfInBounds_toArray, List.set_cons_zero, List.set_cons_succ, i64_w, i32_w]
                 rfl
                refine one_ (i := 3) (N := some 78) #[true, true, true, true, false, true, false] rfl rfl (by kernel_rfl) (by decide) (fun K hK => ?_)
                refine goes_ Try.func18 (by kernel_rfl) rfl #[.agg #[.slice A1_0 l1_0.length c1_0, .slice A1_1 l1_1.length c1_1, .int .i64 a1_2, .int .i64 a1_3]] (by rfl) rfl rfl (by (try simp only [List.map_toArray, List.map_cons, List.map_nil]); first | done | rfl | (simp only [List.length_drop, List.length_take]; rfl)) ?_
                with_reducible refine (laws_toView.calls kj34 _ _ l1_0 _ _ l1_1 a1_2 a1_3 t324 t327 t330 t331 _ ?side1 ?side2 ?side3 ?side4 A125.out).mono ?_
                (case side1 => exact (Cu ((Kd.C_below HR1_0.out HB.out))))
                (case side2 => exact HC1_0.out)
                (case side3 => exact (Cu ((Kd.C_below HR1_1.out HB.out))))
                (case side4 => exact HC1_1.out)
                rintro e w142 ⟨v325, v328, rfl, ho0, ho1, hb⟩
                refine ⟨_, rfl, ?_⟩
                have HO326 := Ω5 (Kd.R_lower (Kd.R_new' (Kd.R_new' (Kd.R_new' (Kd.R_new' (Kd.R_new' (Kd.R_new' ho0 (Kd.R_lt (Ru HO_267000.out))) (Kd.R_lt (Ru HO_267001.out))) (Kd.R_lt (Ru HO_290000.out))) (Kd.R_lt (Ru HO_290001.out))) (Kd.R_lt (Ru HO320.out))) (Kd.R_lt (Ru HO323.out))) (below_size (HBu HB.out)))
                have HO329 := Ω5 (Kd.R_lower (Kd.R_new' (Kd.R_new' (Kd.R_new' (Kd.R_new' (Kd.R_new' (Kd.R_new' ho1 (Kd.R_lt (Ru HO_267000.out))) (Kd.R_lt (Ru HO_267001.out))) (Kd.R_lt (Ru HO_290000.out))) (Kd.R_lt (Ru HO_290001.out))) (Kd.R_lt (Ru HO320.out))) (Kd.R_lt (Ru HO323.out))) (below_size (HBu HB.out)))
                replace HO_267000 := Ω5 (Rt2 HO_267000.out hb ho0 ho1)
                replace HO_267001 := Ω5 (Rt2 HO_267001.out hb ho0 ho1)
                replace HO_290000 := Ω5 (Rt2 HO_290000.out hb ho0 ho1)
                replace HO_290001 := Ω5 (Rt2 HO_290001.out hb ho0 ho1)
                replace HO320 := Ω5 (Rt2 HO320.out hb ho0 ho1)
                replace HO323 := Ω5 (Rt2 HO323.out hb ho0 ho1)
                replace BK242 := Ω5 (Bb BK242.out hb)
                replace BK243 := Ω5 (Bb BK243.out hb)
                replace BK266 := Ω5 (Bb BK266.out hb)
                replace BK289 := Ω5 (Bb BK289.out hb)
                replace BK338 := Ω5 (Bb BK338.out hb)
                replace HB := Ω5 (below_step (HBu HB.out) hb)
                (try clear hb)
                (try clear hb2)
                (try clear hk)
                (try clear hi)
                (try clear ho0)
                (try clear ho1)
                obtain ⟨Ao143, co143, eo143⟩ := Kd.R_slice HO320.out
                (first | subst eo143 | (injection eo143 with f1_ f2_ f3_; have f4_ := f1_.symm; have f5_ := f3_.symm; clear f1_ f2_ f3_; subst f4_; subst f5_))
                obtain ⟨Ao144, co144, eo144⟩ := Kd.R_slice HO323.out
                (first | subst eo144 | (injection eo144 with f1_ f2_ f3_; have f4_ := f1_.symm; have f5_ := f3_.symm; clear f1_ f2_ f3_; subst f4_; subst f5_))
                obtain ⟨Ao145, co145, eo145⟩ := Kd.R_slice HO326.out
                (first | subst eo145 | (injection eo145 with f1_ f2_ f3_; have f4_ := f1_.symm; have f5_ := f3_.symm; clear f1_ f2_ f3_; subst f4_; subst f5_))
                obtain ⟨Ao146, co146, eo146⟩ := Kd.R_slice HO329.out
                (first | subst eo146 | (injection eo146 with f1_ f2_ f3_; have f4_ := f1_.symm; have f5_ := f3_.symm; clear f1_ f2_ f3_; subst f4_; subst f5_))
                refine hK.out _ _ ⟨(ΩJ BK242.out 0).trans rfl, (ΩJ BK242.out 1).trans rfl, (ΩJ BK243.out 0).trans rfl, (ΩJ BK243.out 1).trans rfl, (ΩJ BK243.out 2).trans rfl, (ΩJ BK243.out 3).trans rfl⟩ (fun hHeld => ?_)
                clear hK K
                refine norm_ (a' := ?_) ?_ ?_
                rotate_left
                ·show Act.put _ (some 78) _ = _
                 simp only [Act.put, List.setIfInBounds_toArray, List.set_cons_zero, List.set_cons_succ, i64_w, i32_w]
                 rfl
                refine one_ (i := 4) (N := some 79) #[true, true, true, true, true, true, false] rfl rfl (by kernel_rfl) (by decide) (fun K hK => ?_)
                refine goes_ Try.func19 (by kernel_rfl) rfl #[.agg #[.slice Ao143 t318.length co143, .slice Ao144 t321.length co144], .agg #[.slice Ao145 t324.length co145, .slice Ao146 t327.length co146, .int .i64 t330, .int .i64 t331]] (by rfl) rfl rfl (by (try simp only [List.map_toArray, List.map_cons, List.map_nil]); first | done | rfl | (simp only [List.length_drop, List.length_take]; rfl)) ?_
                with_reducible refine (impl_Look.calls kj34 _ _ t318 _ _ t321 _ _ t324 _ _ t327 t330 t331 t332 t335 _ ?side1 ?side2 ?side3 ?side4 ?side5 ?side6 ?side7 ?side8 A126.out).mono ?_
                (case side1 => exact (Cu ((Kd.R_reads' HO320.out).2.2)))
                (case side2 => exact (Kd.R_reads' HO320.out).2.1)
                (case side3 => exact (Cu ((Kd.R_reads' HO323.out).2.2)))
                (case side4 => exact (Kd.R_reads' HO323.out).2.1)
                (case side5 => exact (Cu ((Kd.R_reads' HO326.out).2.2)))
                (case side6 => exact (Kd.R_reads' HO326.out).2.1)
                (case side7 => exact (Cu ((Kd.R_reads' HO329.out).2.2)))
                (case side8 => exact (Kd.R_reads' HO329.out).2.1)
                rintro e w147 ⟨v333, v336, rfl, ho0, ho1, hb⟩
                refine ⟨_, rfl, ?_⟩
                have HO334 := Ω5 (Kd.R_lower (Kd.R_new' (Kd.R_new' (Kd.R_new' (Kd.R_new' (Kd.R_new' (Kd.R_new' (Kd.R_new' (Kd.R_new' ho0 (Kd.R_lt (Ru HO_267000.out))) (Kd.R_lt (Ru HO_267001.out))) (Kd.R_lt (Ru HO_290000.out))) (Kd.R_lt (Ru HO_290001.out))) (Kd.R_lt (Ru HO320.out))) (Kd.R_lt (Ru HO323.out))) (Kd.R_lt (Ru HO326.out))) (Kd.R_lt (Ru HO329.out))) (below_size (HBu HB.out)))
                have HO337 := Ω5 (Kd.R_lower (Kd.R_new' (Kd.R_new' (Kd.R_new' (Kd.R_new' (Kd.R_new' (Kd.R_new' (Kd.R_new' (Kd.R_new' ho1 (Kd.R_lt (Ru HO_267000.out))) (Kd.R_lt (Ru HO_267001.out))) (Kd.R_lt (Ru HO_290000.out))) (Kd.R_lt (Ru HO_290001.out))) (Kd.R_lt (Ru HO320.out))) (Kd.R_lt (Ru HO323.out))) (Kd.R_lt (Ru HO326.out))) (Kd.R_lt (Ru HO329.out))) (below_size (HBu HB.out)))
                replace HO_267000 := Ω5 (Rt2 HO_267000.out hb ho0 ho1)
                replace HO_267001 := Ω5 (Rt2 HO_267001.out hb ho0 ho1)
                replace HO_290000 := Ω5 (Rt2 HO_290000.out hb ho0 ho1)
                replace HO_290001 := Ω5 (Rt2 HO_290001.out hb ho0 ho1)
                replace HO320 := Ω5 (Rt2 HO320.out hb ho0 ho1)
                replace HO323 := Ω5 (Rt2 HO323.out hb ho0 ho1)
                replace HO326 := Ω5 (Rt2 HO326.out hb ho0 ho1)
                replace HO329 := Ω5 (Rt2 HO329.out hb ho0 ho1)
                replace BK242 := Ω5 (Bb BK242.out hb)
                replace BK243 := Ω5 (Bb BK243.out hb)
                replace BK266 := Ω5 (Bb BK266.out hb)
                replace BK289 := Ω5 (Bb BK289.out hb)
                replace BK338 := Ω5 (Bb BK338.out hb)
                replace HB := Ω5 (below_step (HBu HB.out) hb)
                (try clear hb)
                (try clear hb2)
                (try clear hk)
                (try clear hi)
                (try clear ho0)
                (try clear ho1)
                refine hK.out _ _ ⟨(ΩJ BK242.out 0).trans rfl, (ΩJ BK242.out 1).trans rfl, (ΩJ BK243.out 0).trans rfl, (ΩJ BK243.out 1).trans rfl, (ΩJ BK243.out 2).trans rfl, (ΩJ BK243.out 3).trans rfl⟩ (fun hHeld => ?_)
                clear hK K
                refine norm_ (a' := ?_) ?_ ?_
                rotate_left
                ·show Act.put _ (some 79) _ = _
                 simp only [Act.put, List.setIfInBounds_toArray, List.set_cons_zero, List.set_cons_succ, i64_w, i32_w]
                 rfl
                exact norm_ (by simp only [putAll, Act.put, List.setIfInBounds_toArray, List.set_cons_zero, List.set_cons_succ]) (hCont (.slice Ao143 t318.length co143, .slice Ao144 t321.length co144, .slice Ao145 t324.length co145, .slice Ao146 t327.length co146, v333, v336, gb338) _ ⟨hHeld, (Ru (ΩE HO320.out (fun _ hk => ⟨hk.1.1.1.1.1.1.1.1, ⟨hk.1.1.1.2, ⟨hk.1.1.2, ⟨hk.1.2, ⟨hk.2, ⟨hk.1.1.1.1.1.1.1.2, ⟨hk.1.1.1.1.1.1.2, ⟨hk.1.1.1.1.1.2, hk.1.1.1.1.2⟩⟩⟩⟩⟩⟩⟩⟩))), (Ru (ΩE HO323.out (fun _ hk => ⟨hk.1.1.1.1.1.1.1.1, ⟨hk.1.1.1.2, ⟨hk.1.1.2, ⟨hk.1.2, ⟨hk.2, ⟨hk.1.1.1.1.1.1.1.2, ⟨hk.1.1.1.1.1.1.2, ⟨hk.1.1.1.1.1.2, hk.1.1.1.1.2⟩⟩⟩⟩⟩⟩⟩⟩))), (Ru (ΩE HO326.out (fun _ hk => ⟨hk.1.1.1.2, ⟨hk.1.1.2, ⟨hk.1.1.1.1.1.1.1.1, ⟨hk.1.2, ⟨hk.2, ⟨hk.1.1.1.1.1.1.1.2, ⟨hk.1.1.1.1.1.1.2, ⟨hk.1.1.1.1.1.2, hk.1.1.1.1.2⟩⟩⟩⟩⟩⟩⟩⟩))), (Ru (ΩE HO329.out (fun _ hk => ⟨hk.1.1.1.2, ⟨hk.1.1.2, ⟨hk.1.1.1.1.1.1.1.1, ⟨hk.1.2, ⟨hk.2, ⟨hk.1.1.1.1.1.1.1.2, ⟨hk.1.1.1.1.1.1.2, ⟨hk.1.1.1.1.1.2, hk.1.1.1.1.2⟩⟩⟩⟩⟩⟩⟩⟩))), (Ru (ΩE HO334.out (fun _ hk => ⟨hk.1.1.1.2, ⟨hk.1.1.2, ⟨hk.1.2, ⟨hk.2, ⟨hk.1.1.1.1.1.1.1.1, ⟨hk.1.1.1.1.1.1.1.2, ⟨hk.1.1.1.1.1.1.2, ⟨hk.1.1.1.1.1.2, hk.1.1.1.1.2⟩⟩⟩⟩⟩⟩⟩⟩))), (Ru (ΩE HO337.out (fun _ hk => ⟨hk.1.1.1.2, ⟨hk.1.1.2, ⟨hk.1.2, ⟨hk.2, ⟨hk.1.1.1.1.1.1.1.1, ⟨hk.1.1.1.1.1.1.1.2, ⟨hk.1.1.1.1.1.1.2, ⟨hk.1.1.1.1.1.2, hk.1.1.1.1.2⟩⟩⟩⟩⟩⟩⟩⟩))), (Ru (ΩE HO_267000.out (fun _ hk => ⟨hk.1.1.1.1.1.2, ⟨hk.1.1.1.1.2, ⟨hk.1.1.1.2, ⟨hk.1.1.2, ⟨hk.1.2, ⟨hk.2, ⟨hk.1.1.1.1.1.1.1, ⟨hk.1.1.1.1.1.1.2.1, hk.1.1.1.1.1.1.2.2⟩⟩⟩⟩⟩⟩⟩⟩))), (Ru (ΩE HO_267001.out (fun _ hk => ⟨hk.1.1.1.1.1.2, ⟨hk.1.1.1.1.2, ⟨hk.1.1.1.2, ⟨hk.1.1.2, ⟨hk.1.2, ⟨hk.2, ⟨hk.1.1.1.1.1.1.1, ⟨hk.1.1.1.1.1.1.2.1, hk.1.1.1.1.1.1.2.2⟩⟩⟩⟩⟩⟩⟩⟩))), (Ru (ΩE HO_290000.out (fun _ hk => ⟨hk.1.1.1.1.1.2, ⟨hk.1.1.1.1.2, ⟨hk.1.1.1.2, ⟨hk.1.1.2, ⟨hk.1.2, ⟨hk.2, ⟨hk.1.1.1.1.1.1.1, ⟨hk.1.1.1.1.1.1.2.1, hk.1.1.1.1.1.1.2.2⟩⟩⟩⟩⟩⟩⟩⟩))), (Ru (ΩE HO_290001.out (fun _ hk => ⟨hk.1.1.1.1.1.2, ⟨hk.1.1.1.1.2, ⟨hk.1.1.1.2, ⟨hk.1.1.2, ⟨hk.1.2, ⟨hk.2, ⟨hk.1.1.1.1.1.1.1, ⟨hk.1.1.1.1.1.1.2.1, hk.1.1.1.1.1.1.2.2⟩⟩⟩⟩⟩⟩⟩⟩))), (Bu BK242.out), (Bu BK243.out), (Bu BK266.out), (Bu BK289.out), (Bu BK338.out), GW338.out, GE338.out, NB242_338.out, NB338_242.out, NB243_338.out, NB338_243.out, NB266_338.out, NB338_266.out, NB289_338.out, NB338_289.out, (HBu HB.out)⟩)
              rintro ⟨v319, v322, v325, v328, v333, v336, gb338⟩ w148 ⟨hS_, h0_, h1_, h2_, h3_, h4_, h5_, h6_, h7_, h8_, h9_, h10_, h11_, h12_, h13_, h14_, h15_, h16_, h17_, h18_, h19_, h20_, h21_, h22_, h23_, h24_, h25_⟩
              have n0_ : Aside0 (Kd.R (Kd.int .i64) 3 w148 w.heap.size (fun k_ => some k_ ≠ (v322 : Value).ownBlock ∧ some k_ ≠ (v325 : Value).ownBlock ∧ some k_ ≠ (v328 : Value).ownBlock ∧ some k_ ≠ (v333 : Value).ownBlock ∧ some k_ ≠ (v336 : Value).ownBlock ∧ some k_ ≠ (.slice Ao53 t260.length co53 : Value).ownBlock ∧ some k_ ≠ (.slice Ao55 t263.length co55 : Value).ownBlock ∧ some k_ ≠ (.slice Ao81 t283.length co81 : Value).ownBlock ∧ some k_ ≠ (.slice Ao88 t286.length co88 : Value).ownBlock) v319 t318) := ⟨h0_⟩
              have n1_ : Aside0 (Kd.R (Kd.int .i64) 3 w148 w.heap.size (fun k_ => some k_ ≠ (v319 : Value).ownBlock ∧ some k_ ≠ (v325 : Value).ownBlock ∧ some k_ ≠ (v328 : Value).ownBlock ∧ some k_ ≠ (v333 : Value).ownBlock ∧ some k_ ≠ (v336 : Value).ownBlock ∧ some k_ ≠ (.slice Ao53 t260.length co53 : Value).ownBlock ∧ some k_ ≠ (.slice Ao55 t263.length co55 : Value).ownBlock ∧ some k_ ≠ (.slice Ao81 t283.length co81 : Value).ownBlock ∧ some k_ ≠ (.slice Ao88 t286.length co88 : Value).ownBlock) v322 t321) := ⟨h1_⟩
              have n2_ : Aside0 (Kd.R (Kd.int .i64) 3 w148 w.heap.size (fun k_ => some k_ ≠ (v319 : Value).ownBlock ∧ some k_ ≠ (v322 : Value).ownBlock ∧ some k_ ≠ (v328 : Value).ownBlock ∧ some k_ ≠ (v333 : Value).ownBlock ∧ some k_ ≠ (v336 : Value).ownBlock ∧ some k_ ≠ (.slice Ao53 t260.length co53 : Value).ownBlock ∧ some k_ ≠ (.slice Ao55 t263.length co55 : Value).ownBlock ∧ some k_ ≠ (.slice Ao81 t283.length co81 : Value).ownBlock ∧ some k_ ≠ (.slice Ao88 t286.length co88 : Value).ownBlock) v325 t324) := ⟨h2_⟩
              have n3_ : Aside0 (Kd.R (Kd.int .i64) 3 w148 w.heap.size (fun k_ => some k_ ≠ (v319 : Value).ownBlock ∧ some k_ ≠ (v322 : Value).ownBlock ∧ some k_ ≠ (v325 : Value).ownBlock ∧ some k_ ≠ (v333 : Value).ownBlock ∧ some k_ ≠ (v336 : Value).ownBlock ∧ some k_ ≠ (.slice Ao53 t260.length co53 : Value).ownBlock ∧ some k_ ≠ (.slice Ao55 t263.length co55 : Value).ownBlock ∧ some k_ ≠ (.slice Ao81 t283.length co81 : Value).ownBlock ∧ some k_ ≠ (.slice Ao88 t286.length co88 : Value).ownBlock) v328 t327) := ⟨h3_⟩
              have n4_ : Aside0 (Kd.R (Kd.int .i64) 3 w148 w.heap.size (fun k_ => some k_ ≠ (v319 : Value).ownBlock ∧ some k_ ≠ (v322 : Value).ownBlock ∧ some k_ ≠ (v325 : Value).ownBlock ∧ some k_ ≠ (v328 : Value).ownBlock ∧ some k_ ≠ (v336 : Value).ownBlock ∧ some k_ ≠ (.slice Ao53 t260.length co53 : Value).ownBlock ∧ some k_ ≠ (.slice Ao55 t263.length co55 : Value).ownBlock ∧ some k_ ≠ (.slice Ao81 t283.length co81 : Value).ownBlock ∧ some k_ ≠ (.slice Ao88 t286.length co88 : Value).ownBlock) v333 t332) := ⟨h4_⟩
              have n5_ : Aside0 (Kd.R (Kd.int .i64) 3 w148 w.heap.size (fun k_ => some k_ ≠ (v319 : Value).ownBlock ∧ some k_ ≠ (v322 : Value).ownBlock ∧ some k_ ≠ (v325 : Value).ownBlock ∧ some k_ ≠ (v328 : Value).ownBlock ∧ some k_ ≠ (v333 : Value).ownBlock ∧ some k_ ≠ (.slice Ao53 t260.length co53 : Value).ownBlock ∧ some k_ ≠ (.slice Ao55 t263.length co55 : Value).ownBlock ∧ some k_ ≠ (.slice Ao81 t283.length co81 : Value).ownBlock ∧ some k_ ≠ (.slice Ao88 t286.length co88 : Value).ownBlock) v336 t335) := ⟨h5_⟩
              have n6_ : Aside0 (Kd.R (Kd.int .i64) 3 w148 w.heap.size (fun k_ => some k_ ≠ (v319 : Value).ownBlock ∧ some k_ ≠ (v322 : Value).ownBlock ∧ some k_ ≠ (v325 : Value).ownBlock ∧ some k_ ≠ (v328 : Value).ownBlock ∧ some k_ ≠ (v333 : Value).ownBlock ∧ some k_ ≠ (v336 : Value).ownBlock ∧ some k_ ≠ (.slice Ao55 t263.length co55 : Value).ownBlock ∧ some k_ ≠ (.slice Ao81 t283.length co81 : Value).ownBlock ∧ some k_ ≠ (.slice Ao88 t286.length co88 : Value).ownBlock) (.slice Ao53 t260.length co53) t260) := ⟨h6_⟩
              have n7_ : Aside0 (Kd.R (Kd.int .i64) 3 w148 w.heap.size (fun k_ => some k_ ≠ (v319 : Value).ownBlock ∧ some k_ ≠ (v322 : Value).ownBlock ∧ some k_ ≠ (v325 : Value).ownBlock ∧ some k_ ≠ (v328 : Value).ownBlock ∧ some k_ ≠ (v333 : Value).ownBlock ∧ some k_ ≠ (v336 : Value).ownBlock ∧ some k_ ≠ (.slice Ao53 t260.length co53 : Value).ownBlock ∧ some k_ ≠ (.slice Ao81 t283.length co81 : Value).ownBlock ∧ some k_ ≠ (.slice Ao88 t286.length co88 : Value).ownBlock) (.slice Ao55 t263.length co55) t263) := ⟨h7_⟩
              have n8_ : Aside0 (Kd.R (Kd.int .i64) 3 w148 w.heap.size (fun k_ => some k_ ≠ (v319 : Value).ownBlock ∧ some k_ ≠ (v322 : Value).ownBlock ∧ some k_ ≠ (v325 : Value).ownBlock ∧ some k_ ≠ (v328 : Value).ownBlock ∧ some k_ ≠ (v333 : Value).ownBlock ∧ some k_ ≠ (v336 : Value).ownBlock ∧ some k_ ≠ (.slice Ao53 t260.length co53 : Value).ownBlock ∧ some k_ ≠ (.slice Ao55 t263.length co55 : Value).ownBlock ∧ some k_ ≠ (.slice Ao88 t286.length co88 : Value).ownBlock) (.slice Ao81 t283.length co81) t315) := ⟨h8_⟩
              have n9_ : Aside0 (Kd.R (Kd.int .i64) 3 w148 w.heap.size (fun k_ => some k_ ≠ (v319 : Value).ownBlock ∧ some k_ ≠ (v322 : Value).ownBlock ∧ some k_ ≠ (v325 : Value).ownBlock ∧ some k_ ≠ (v328 : Value).ownBlock ∧ some k_ ≠ (v333 : Value).ownBlock ∧ some k_ ≠ (v336 : Value).ownBlock ∧ some k_ ≠ (.slice Ao53 t260.length co53 : Value).ownBlock ∧ some k_ ≠ (.slice Ao55 t263.length co55 : Value).ownBlock ∧ some k_ ≠ (.slice Ao81 t283.length co81 : Value).ownBlock) (.slice Ao88 t286.length co88) t316) := ⟨h9_⟩
              have n10_ : Aside0 (w148.heap[gb242]? = some (.cells #[.slice A0_0 l0_0.length c0_0, .slice A0_1 l0_1.length c0_1] 24 (0, 0))) := ⟨h10_⟩
              have n11_ : Aside0 (w148.heap[gb243]? = some (.cells #[.slice A1_0 l1_0.length c1_0, .slice A1_1 l1_1.length c1_1, .int .i64 a1_2, .int .i64 a1_3] 33 (0, 0))) := ⟨h11_⟩
              have n12_ : Aside0 (w148.heap[gb266]? = some (.cells #[.slice Ao53 t260.length co53, .slice Ao55 t263.length co55] 26 (0, 0))) := ⟨h12_⟩
              have n13_ : Aside0 (w148.heap[gb289]? = some (.cells #[.slice Ao81 t283.length co81, .slice Ao88 t286.length co88] 26 (0, 0))) := ⟨h13_⟩
              have n14_ : Aside0 (w148.heap[gb338]? = some (.cells #[.slice none 0 0, .slice none 0 0] 26 (0, 0))) := ⟨h14_⟩
              have n15_ : Aside0 (w.heap.size ≤ gb338) := ⟨h15_⟩
              have n16_ : Aside0 (w.heap.size ≤ gb338) := ⟨h16_⟩
              have n17_ : Aside0 (gb242 ≠ gb338) := ⟨h17_⟩
              have n18_ : Aside0 (gb338 ≠ gb242) := ⟨h18_⟩
              have n19_ : Aside0 (gb243 ≠ gb338) := ⟨h19_⟩
              have n20_ : Aside0 (gb338 ≠ gb243) := ⟨h20_⟩
              have n21_ : Aside0 (gb266 ≠ gb338) := ⟨h21_⟩
              have n22_ : Aside0 (gb338 ≠ gb266) := ⟨h22_⟩
              have n23_ : Aside0 (gb289 ≠ gb338) := ⟨h23_⟩
              have n24_ : Aside0 (gb338 ≠ gb289) := ⟨h24_⟩
              have n25_ : Aside0 (Below w.heap.size w w148) := ⟨h25_⟩
              clear HO_267000
              clear HO_267001
              clear HO_290000
              clear HO_290001
              clear BK242
              clear BK243
              clear BK266
              clear BK289
              clear HB
              clear h0_ h1_ h2_ h3_ h4_ h5_ h6_ h7_ h8_ h9_ h10_ h11_ h12_ h13_ h14_ h15_ h16_ h17_ h18_ h19_ h20_ h21_ h22_ h23_ h24_ h25_
              have HO320 := n0_
              have HO323 := n1_
              have HO326 := n2_
              have HO329 := n3_
              have HO334 := n4_
              have HO337 := n5_
              have HO_267000 := n6_
              have HO_267001 := n7_
              have HO_290000 := n8_
              have HO_290001 := n9_
              have BK242 := n10_
              have BK243 := n11_
              have BK266 := n12_
              have BK289 := n13_
              have BK338 := n14_
              have GW338 := n15_
              have GE338 := n16_
              have NB242_338 := n17_
              have NB338_242 := n18_
              have NB243_338 := n19_
              have NB338_243 := n20_
              have NB266_338 := n21_
              have NB338_266 := n22_
              have NB289_338 := n23_
              have NB338_289 := n24_
              have HB := n25_
              clear n0_ n1_ n2_ n3_ n4_ n5_ n6_ n7_ n8_ n9_ n10_ n11_ n12_ n13_ n14_ n15_ n16_ n17_ n18_ n19_ n20_ n21_ n22_ n23_ n24_ n25_
              have hHeld : w148.cell? ⟨gb242, 0, none⟩ = some (.slice A0_0 l0_0.length c0_0) ∧ w148.cell? ⟨gb242, 1, none⟩ = some (.slice A0_1 l0_1.length c0_1) ∧ w148.cell? ⟨gb243, 0, none⟩ = some (.slice A1_0 l1_0.length c1_0) ∧ w148.cell? ⟨gb243, 1, none⟩ = some (.slice A1_1 l1_1.length c1_1) ∧ w148.cell? ⟨gb243, 2, none⟩ = some (.int .i64 a1_2) ∧ w148.cell? ⟨gb243, 3, none⟩ = some (.int .i64 a1_3) := hS_
              obtain ⟨Ao149, co149, eo149⟩ := Kd.R_slice HO334.out
              (first | subst eo149 | (injection eo149 with f1_ f2_ f3_; have f4_ := f1_.symm; have f5_ := f3_.symm; clear f1_ f2_ f3_; subst f4_; subst f5_))
              obtain ⟨Ao151, co151, eo151⟩ := Kd.R_slice HO337.out
              (first | subst eo151 | (injection eo151 with f1_ f2_ f3_; have f4_ := f1_.symm; have f5_ := f3_.symm; clear f1_ f2_ f3_; subst f4_; subst f5_))
              refine norm_ (a' := ?_) ?_ ?_
              rotate_left
              ·simp only [putAll, Act.put, List.setIfInBounds_toArray, List.set_cons_zero, List.set_cons_succ]
               rfl
              refine one_ (i := 6) (N := none) #[true, true, true, true, true, true, true] rfl rfl (by kernel_rfl) (by decide) (fun K hK => ?_)
              have hs150 : w148.cell? ⟨gb338, 0, none⟩ = some (.slice none 0 0) := (ΩJ BK338.out 0).trans rfl
              have hfs150 := ΩF BK338.out 0
              have hns150_0 := NB242_338.out
              have hns150_1 := NB243_338.out
              have hns150_2 := NB266_338.out
              have hns150_3 := NB289_338.out
              have hms150_0 := NB338_242.out
              have hms150_1 := NB338_243.out
              have hms150_2 := NB338_266.out
              have hms150_3 := NB338_289.out
              have hs152 : w148.cell? ⟨gb338, 1, none⟩ = some (.slice none 0 0) := (ΩJ BK338.out 1).trans rfl
              have hfs152 := ΩF BK338.out 1
              have hns152_0 := NB242_338.out
              have hns152_1 := NB243_338.out
              have hns152_2 := NB266_338.out
              have hns152_3 := NB289_338.out
              have hms152_0 := NB338_242.out
              have hms152_1 := NB338_243.out
              have hms152_2 := NB338_266.out
              have hms152_3 := NB338_289.out
              refine skip_ (w1 := ?_) (by rfl) rfl ?_ ?_
              rotate_left
              ·go_simp
               rfl
              refine hK.out _ _ ⟨((cell_far (p := ⟨gb338, _, none⟩) NB242_338.out _).trans (((cell_far (p := ⟨gb338, _, none⟩) NB242_338.out _).trans (hHeld.1)))), ((cell_far (p := ⟨gb338, _, none⟩) NB242_338.out _).trans (((cell_far (p := ⟨gb338, _, none⟩) NB242_338.out _).trans (hHeld.2.1)))), ((cell_far (p := ⟨gb338, _, none⟩) NB243_338.out _).trans (((cell_far (p := ⟨gb338, _, none⟩) NB243_338.out _).trans (hHeld.2.2.1)))), ((cell_far (p := ⟨gb338, _, none⟩) NB243_338.out _).trans (((cell_far (p := ⟨gb338, _, none⟩) NB243_338.out _).trans (hHeld.2.2.2.1)))), ((cell_far (p := ⟨gb338, _, none⟩) NB243_338.out _).trans (((cell_far (p := ⟨gb338, _, none⟩) NB243_338.out _).trans (hHeld.2.2.2.2.1)))), ((cell_far (p := ⟨gb338, _, none⟩) NB243_338.out _).trans (((cell_far (p := ⟨gb338, _, none⟩) NB243_338.out _).trans (hHeld.2.2.2.2.2))))⟩ (fun hHeld => ?_)
              clear hK K
              refine done_ (by kernel_rfl) ?_
              have hnb153 := NB338_242.out
              have hnc153 := NB242_338.out
              have hnb154 := NB338_243.out
              have hnc154 := NB243_338.out
              have hnb155 := NB338_266.out
              have hnc155 := NB266_338.out
              have hnb156 := NB338_289.out
              have hnc156 := NB289_338.out
              have hcz157_0 : w148.cell? ⟨gb338, 0, none⟩ = some (.slice none 0 0) := (ΩJ BK338.out 0).trans rfl
              have hcz157_1 : w148.cell? ⟨gb338, 1, none⟩ = some (.slice none 0 0) := (ΩJ BK338.out 1).trans rfl
              have hfz157_0 := ΩF BK338.out 0
              have hfz157_1 := ΩF BK338.out 1
              have hnb158 := NB266_242.out
              have hnc158 := NB242_266.out
              have hnb159 := NB266_243.out
              have hnc159 := NB243_266.out
              have hcz160_0 : w148.cell? ⟨gb266, 0, none⟩ = some (.slice Ao53 t260.length co53) := (ΩJ BK266.out 0).trans rfl
              have hcz160_1 : w148.cell? ⟨gb266, 1, none⟩ = some (.slice Ao55 t263.length co55) := (ΩJ BK266.out 1).trans rfl
              have hfz160_0 := ΩF BK266.out 0
              have hfz160_1 := ΩF BK266.out 1
              try go_wp2_with (first | ((with_reducible refine gate_callee (f := 13) rfl ?_); refine goesL_ (some 82) rfl rfl Try.func13 (by kernel_rfl) rfl #[.agg #[.slice Ao149 t332.length co149, .slice Ao151 t335.length co151], .agg #[.slice Ao53 t260.length co53, .slice Ao55 t263.length co55]] rfl (by (try simp only [List.map_toArray, List.map_cons, List.map_nil]); first | done | rfl | (simp only [List.length_drop, List.length_take]; rfl)) ?_; (with_reducible refine (laws_eqTensor.calls kj34 _ _ t332 _ _ t335 _ _ t260 _ _ t263 true _ ?side1 ?side2 ?side3 ?side4 ?side5 ?side6 ?side7 ?side8 A127.out).mono ?_); (case side1 => refine (Kd.R_reads' (e := 3) (base := w.heap.size) (ok := fun k_ => (some k_ ≠ (v319 : Value).ownBlock ∧ (some k_ ≠ (v322 : Value).ownBlock ∧ (some k_ ≠ (v325 : Value).ownBlock ∧ (some k_ ≠ (v328 : Value).ownBlock ∧ (some k_ ≠ (.slice Ao151 t335.length co151 : Value).ownBlock ∧ (some k_ ≠ (.slice Ao53 t260.length co53 : Value).ownBlock ∧ (some k_ ≠ (.slice Ao55 t263.length co55 : Value).ownBlock ∧ (some k_ ≠ (.slice Ao81 t283.length co81 : Value).ownBlock ∧ some k_ ≠ (.slice Ao88 t286.length co88 : Value).ownBlock))))))))) (n := t332.length) (c := co149) ?_).2.2; exact (Ru (Rf2 HO334.out BK338.out (by decide) (.slice Ao149 t332.length co149) (.slice Ao151 t335.length co151)))); (case side2 => exact (Kd.R_reads' HO334.out).2.1); (case side3 => refine (Kd.R_reads' (e := 3) (base := w.heap.size) (ok := fun k_ => (some k_ ≠ (v319 : Value).ownBlock ∧ (some k_ ≠ (v322 : Value).ownBlock ∧ (some k_ ≠ (v325 : Value).ownBlock ∧ (some k_ ≠ (v328 : Value).ownBlock ∧ (some k_ ≠ (.slice Ao149 t332.length co149 : Value).ownBlock ∧ (some k_ ≠ (.slice Ao53 t260.length co53 : Value).ownBlock ∧ (some k_ ≠ (.slice Ao55 t263.length co55 : Value).ownBlock ∧ (some k_ ≠ (.slice Ao81 t283.length co81 : Value).ownBlock ∧ some k_ ≠ (.slice Ao88 t286.length co88 : Value).ownBlock))))))))) (n := t335.length) (c := co151) ?_).2.2; exact (Ru (Rf2 HO337.out BK338.out (by decide) (.slice Ao149 t332.length co149) (.slice Ao151 t335.length co151)))); (case side4 => exact (Kd.R_reads' HO337.out).2.1); (case side5 => refine (Kd.R_reads' (e := 3) (base := w.heap.size) (ok := fun k_ => (some k_ ≠ (v319 : Value).ownBlock ∧ (some k_ ≠ (v322 : Value).ownBlock ∧ (some k_ ≠ (v325 : Value).ownBlock ∧ (some k_ ≠ (v328 : Value).ownBlock ∧ (some k_ ≠ (.slice Ao149 t332.length co149 : Value).ownBlock ∧ (some k_ ≠ (.slice Ao151 t335.length co151 : Value).ownBlock ∧ (some k_ ≠ (.slice Ao55 t263.length co55 : Value).ownBlock ∧ (some k_ ≠ (.slice Ao81 t283.length co81 : Value).ownBlock ∧ some k_ ≠ (.slice Ao88 t286.length co88 : Value).ownBlock))))))))) (n := t260.length) (c := co53) ?_).2.2; exact (Ru (Rf2 HO_267000.out BK338.out (by decide) (.slice Ao149 t332.length co149) (.slice Ao151 t335.length co151)))); (case side6 => exact (Kd.R_reads' HO_267000.out).2.1); (case side7 => refine (Kd.R_reads' (e := 3) (base := w.heap.size) (ok := fun k_ => (some k_ ≠ (v319 : Value).ownBlock ∧ (some k_ ≠ (v322 : Value).ownBlock ∧ (some k_ ≠ (v325 : Value).ownBlock ∧ (some k_ ≠ (v328 : Value).ownBlock ∧ (some k_ ≠ (.slice Ao149 t332.length co149 : Value).ownBlock ∧ (some k_ ≠ (.slice Ao151 t335.length co151 : Value).ownBlock ∧ (some k_ ≠ (.slice Ao53 t260.length co53 : Value).ownBlock ∧ (some k_ ≠ (.slice Ao81 t283.length co81 : Value).ownBlock ∧ some k_ ≠ (.slice Ao88 t286.length co88 : Value).ownBlock))))))))) (n := t263.length) (c := co55) ?_).2.2; exact (Ru (Rf2 HO_267001.out BK338.out (by decide) (.slice Ao149 t332.length co149) (.slice Ao151 t335.length co151)))); (case side8 => exact (Kd.R_reads' HO_267001.out).2.1); rintro e w161 ⟨rfl, hb⟩; refine ⟨_, rfl, ?_⟩; replace HO_267000 := Ω5 (ΩD (Ru (Rf2 HO_267000.out BK338.out (by decide) (.slice Ao149 t332.length co149) (.slice Ao151 t335.length co151))) hb); replace HO_267001 := Ω5 (ΩD (Ru (Rf2 HO_267001.out BK338.out (by decide) (.slice Ao149 t332.length co149) (.slice Ao151 t335.length co151))) hb); replace HO_290000 := Ω5 (ΩD (Ru (Rf2 HO_290000.out BK338.out (by decide) (.slice Ao149 t332.length co149) (.slice Ao151 t335.length co151))) hb); replace HO_290001 := Ω5 (ΩD (Ru (Rf2 HO_290001.out BK338.out (by decide) (.slice Ao149 t332.length co149) (.slice Ao151 t335.length co151))) hb); replace HO320 := Ω5 (ΩD (Ru (Rf2 HO320.out BK338.out (by decide) (.slice Ao149 t332.length co149) (.slice Ao151 t335.length co151))) hb); replace HO323 := Ω5 (ΩD (Ru (Rf2 HO323.out BK338.out (by decide) (.slice Ao149 t332.length co149) (.slice Ao151 t335.length co151))) hb); replace HO326 := Ω5 (ΩD (Ru (Rf2 HO326.out BK338.out (by decide) (.slice Ao149 t332.length co149) (.slice Ao151 t335.length co151))) hb); replace HO329 := Ω5 (ΩD (Ru (Rf2 HO329.out BK338.out (by decide) (.slice Ao149 t332.length co149) (.slice Ao151 t335.length co151))) hb); replace HO334 := Ω5 (ΩD (Ru (Rf2 HO334.out BK338.out (by decide) (.slice Ao149 t332.length co149) (.slice Ao151 t335.length co151))) hb); replace HO337 := Ω5 (ΩD (Ru (Rf2 HO337.out BK338.out (by decide) (.slice Ao149 t332.length co149) (.slice Ao151 t335.length co151))) hb); replace BK242 := Ω5 (blk_below (g := gb242) (o := .cells #[.slice A0_0 l0_0.length c0_0, .slice A0_1 l0_1.length c0_1] 24 (0, 0)) (by (with_reducible repeat (first | refine ΩA ?_ _ | refine ΩC ?_ | refine ΩB ?_ _)); refine blk_far ?_ NB242_338.out _; (with_reducible repeat (first | refine ΩA ?_ _ | refine ΩC ?_ | refine ΩB ?_ _)); refine blk_far ?_ NB242_338.out _; (with_reducible repeat (first | refine ΩA ?_ _ | refine ΩC ?_ | refine ΩB ?_ _)); exact BK242.out) hb); replace BK243 := Ω5 (blk_below (g := gb243) (o := .cells #[.slice A1_0 l1_0.length c1_0, .slice A1_1 l1_1.length c1_1, .int .i64 a1_2, .int .i64 a1_3] 33 (0, 0)) (by (with_reducible repeat (first | refine ΩA ?_ _ | refine ΩC ?_ | refine ΩB ?_ _)); refine blk_far ?_ NB243_338.out _; (with_reducible repeat (first | refine ΩA ?_ _ | refine ΩC ?_ | refine ΩB ?_ _)); refine blk_far ?_ NB243_338.out _; (with_reducible repeat (first | refine ΩA ?_ _ | refine ΩC ?_ | refine ΩB ?_ _)); exact BK243.out) hb); replace BK266 := Ω5 (blk_below (g := gb266) (o := .cells #[.slice Ao53 t260.length co53, .slice Ao55 t263.length co55] 26 (0, 0)) (by (with_reducible repeat (first | refine ΩA ?_ _ | refine ΩC ?_ | refine ΩB ?_ _)); refine blk_far ?_ NB266_338.out _; (with_reducible repeat (first | refine ΩA ?_ _ | refine ΩC ?_ | refine ΩB ?_ _)); refine blk_far ?_ NB266_338.out _; (with_reducible repeat (first | refine ΩA ?_ _ | refine ΩC ?_ | refine ΩB ?_ _)); exact BK266.out) hb); replace BK289 := Ω5 (blk_below (g := gb289) (o := .cells #[.slice Ao81 t283.length co81, .slice Ao88 t286.length co88] 26 (0, 0)) (by (with_reducible repeat (first | refine ΩA ?_ _ | refine ΩC ?_ | refine ΩB ?_ _)); refine blk_far ?_ NB289_338.out _; (with_reducible repeat (first | refine ΩA ?_ _ | refine ΩC ?_ | refine ΩB ?_ _)); refine blk_far ?_ NB289_338.out _; (with_reducible repeat (first | refine ΩA ?_ _ | refine ΩC ?_ | refine ΩB ?_ _)); exact BK289.out) hb); replace BK338 := Ω5 (blk_below (g := gb338) (o := .cells #[.slice Ao149 t332.length co149, .slice Ao151 t335.length co151] 26 (0, 0)) (by (with_reducible repeat (first | refine ΩA ?_ _ | refine ΩC ?_ | refine ΩB ?_ _)); refine blk_put (cs := #[.slice Ao149 t332.length co149, .slice none 0 0]) ?_ 1 _ rfl; (with_reducible repeat (first | refine ΩA ?_ _ | refine ΩC ?_ | refine ΩB ?_ _)); refine blk_put (cs := #[.slice none 0 0, .slice none 0 0]) ?_ 0 _ rfl; (with_reducible repeat (first | refine ΩA ?_ _ | refine ΩC ?_ | refine ΩB ?_ _)); exact BK338.out) hb); replace HB := Ω5 (below_step (HBu HB.out) hb); (try clear hb); (try clear hb2); (try clear hk); (try clear hi); have hcz162_0 : w161.cell? ⟨gb289, 0, none⟩ = some (.slice Ao81 t283.length co81) := (ΩJ BK289.out 0).trans rfl; have hcz162_1 : w161.cell? ⟨gb289, 1, none⟩ = some (.slice Ao88 t286.length co88) := (ΩJ BK289.out 1).trans rfl; have hfz162_0 := ΩF BK289.out 0; have hfz162_1 := ΩF BK289.out 1) | ((with_reducible refine gate_callee (f := 15) rfl ?_); refine goesL_ (some 86) rfl rfl Try.func15 (by kernel_rfl) rfl #[.agg #[.slice Ao81 t315.length co81, .slice Ao88 t316.length co88], .int .i64 1] rfl (by (try simp only [List.map_toArray, List.map_cons, List.map_nil]); first | done | (rw [show t315.length = t283.length from (Kd.R_reads' HO_290000.out).1.symm, show t316.length = t286.length from (Kd.R_reads' HO_290001.out).1.symm] <;> rfl) | rfl | (simp only [List.length_drop, List.length_take]; rfl)) ?_; (with_reducible refine (laws_heldTensor.calls kj34 _ _ t315 _ _ t316 1 t340 _ ?side1 ?side2 ?side3 ?side4 A129.out).mono ?_); (case side1 => exact (Cu ((Kd.R_reads' HO_290000.out).2.2))); (case side2 => rw [show t315.length = t283.length from (Kd.R_reads' HO_290000.out).1.symm]; exact (Kd.R_reads' HO_290000.out).2.1); (case side3 => exact (Cu ((Kd.R_reads' HO_290001.out).2.2))); (case side4 => rw [show t316.length = t286.length from (Kd.R_reads' HO_290001.out).1.symm]; exact (Kd.R_reads' HO_290001.out).2.1); rintro e w163 ⟨rfl, hb⟩; refine ⟨_, rfl, ?_⟩; replace HO_267000 := Ω5 (Rb HO_267000.out hb); replace HO_267001 := Ω5 (Rb HO_267001.out hb); replace HO_290000 := Ω5 (Rb HO_290000.out hb); replace HO_290001 := Ω5 (Rb HO_290001.out hb); replace HO320 := Ω5 (Rb HO320.out hb); replace HO323 := Ω5 (Rb HO323.out hb); replace HO326 := Ω5 (Rb HO326.out hb); replace HO329 := Ω5 (Rb HO329.out hb); replace HO334 := Ω5 (Rb HO334.out hb); replace HO337 := Ω5 (Rb HO337.out hb); replace BK242 := Ω5 (Bb BK242.out hb); replace BK243 := Ω5 (Bb BK243.out hb); replace BK266 := Ω5 (Bb BK266.out hb); replace BK289 := Ω5 (Bb BK289.out hb); replace BK338 := Ω5 (Bb BK338.out hb); replace HB := Ω5 (below_step (HBu HB.out) hb); (try clear hb); (try clear hb2); (try clear hk); (try clear hi)))
              go_ret
              exact ⟨by first | rfl | (simp [errW_none, errW_some] <;> rfl) | (simp [*, errW_none, errW_some] <;> rfl), HBu HB.out⟩
             ·rw [if_neg c131] at H
              have c131b0 : (t340 == t314) = false := beq_eq_false_iff_ne.mpr c131
              have c131b1 : (t340 != t314) = true := bne_iff_ne.mpr c131
              rw [HRT.out] at H
              exact absurd H (by simp)
           ·replace c128 := Bool.eq_false_iff.mpr c128
            subst c128
            have H1 : (some false) = some r := by rw [if_neg (show ¬ (false = true) by decide)] at H; exact H
            clear H
            have H := H1
            clear H1
            rw [HRT.out] at H
            exact absurd H (by simp)
          ·rw [if_neg c123] at H
           have c123b0 : (t317 == t314) = false := beq_eq_false_iff_ne.mpr c123
           have c123b1 : (t317 != t314) = true := bne_iff_ne.mpr c123
           rw [HRT.out] at H
           exact absurd H (by simp)
     ·replace c32 := Bool.eq_false_iff.mpr c32
      subst c32
      have H1 : (some false) = some r := by rw [if_neg (show ¬ (false = true) by decide)] at H; exact H
      clear H
      have H := H1
      clear H1
      rw [HRT.out] at H
      exact absurd H (by simp)
    ·replace c29 := Bool.eq_false_iff.mpr c29
     subst c29
     have H1 : (some false) = some r := by rw [if_neg (show ¬ (false = true) by decide)] at H; exact H
     clear H
     have H := H1
     clear H1
     rw [HRT.out] at H
     exact absurd H (by simp)
   ·replace c26 := Bool.eq_false_iff.mpr c26
    subst c26
    have H1 : (some false) = some r := by rw [if_neg (show ¬ (false = true) by decide)] at H; exact H
    clear H
    have H := H1
    clear H1
    rw [HRT.out] at H
    exact absurd H (by simp)

end Go.Proofs.Ytcpemdedmepfeac.PFnExactLook
