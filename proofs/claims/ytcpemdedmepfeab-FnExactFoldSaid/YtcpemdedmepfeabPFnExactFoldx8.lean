-- Printed out of the translation, hand-written contracts beside it; checked by the kernel alone.
import Derived.Test.YtcpemdedmepfeabPFnExactFoldx0
import Derived.Test.YtcpemdedmepfeabPFnExactFoldx1
import Derived.Test.YtcpemdedmepfeabPFnExactFoldx4
import Derived.Test.YtcpemdedmepfeabPFnExactFoldx7
namespace Go.Proofs.Ytcpemdedmepfeab.PFnExactFold
open Go.RowKit Go.Proofs.YtcpemdedmepfeabW.PrintWords Go.Proofs.YtcpemdedmepfeabW.PrintLast Go.Proofs.YtcpemdedmepfeabW.PrintMore
attribute [local go_sem] max2_int min2_int max_two min_two max_three min_three max_four min_four   -- for this text's walks alone
set_option linter.unusedVariables false
set_option linter.unusedSimpArgs false

/-! ### laws_FnExactFold: function 6 -/
def laws_FnExactFold.j0 : Nat → Int → Int → Int → Bool → List Int → List Int → List Int → List Int → List Int → List Int → Option (Bool)
 | 0, _, _, _, _, _, _, _, _, _, _ => none
 | k + 1, x1, x2, x3, x54, x303000, x303001, x317000, x317001, x331000, x331001 => if x54 = true then (some false) else ((laws_markTensor.f k x331000 x331001 1).bind fun bt343 => ((laws_heldTensor.f k bt343.2.1 bt343.2.2 1).bind fun t346 => (if t346 < 0 then (some false) else (if t346 = bt343.1 then ((laws_toTensor.f k x303000 x303001).bind fun bt347 => ((impl_Fold.f k bt347.1 bt347.2 x1 x2 x3).bind fun bt353 => ((laws_eqTensor.f k bt353.1 bt353.2 x317000 x317001).bind fun t360 => (if t360 = true then ((laws_heldTensor.f k bt343.2.1 bt343.2.2 1).bind fun t361 => (if t361 < 0 then (some false) else (if t361 = bt343.1 then (some true) else (some false)))) else (some false))))) else (some false)))))
def laws_FnExactFold.f (k : Nat) (l0_0 : List Int) (l0_1 : List Int) (a1 : Int) (a2 : Int) (a3 : Int) : Option (Bool) := (laws_szTensor.f l0_0 l0_1 1048576).bind fun t303 => (if t303 < 0 then (some true) else ((laws_toTensor.f k l0_0 l0_1).bind fun bt304 => ((spec_Fold.f k bt304.1 bt304.2 a1 a2 a3).bind fun bt310 => ((laws_toTensor.f k l0_0 l0_1).bind fun bt317 => ((impl_Fold.f k bt317.1 bt317.2 a1 a2 a3).bind fun bt324 => ((laws_eqTensor.f k bt324.1 bt324.2 bt310.1 bt310.2).bind fun t331 => (if t331 = true then ((laws_toTensor.f k l0_0 l0_1).bind fun bt332 => ((laws_eqTensor.f k bt317.1 bt317.2 bt332.1 bt332.2).bind fun t338 => (if t338 = true then ((laws_markTensor.f k bt317.1 bt317.2 1).bind fun bt339 => (if bt339.1 < 0 then (laws_FnExactFold.j0 k a1 a2 a3 true l0_0 l0_1 bt310.1 bt310.2 bt324.1 bt324.2) else ((laws_eqTensor.f k bt324.1 bt324.2 bt310.1 bt310.2).bind fun t342 => (laws_FnExactFold.j0 k a1 a2 a3 (!t342) l0_0 l0_1 bt310.1 bt310.2 bt324.1 bt324.2)))) else (some false)))) else (some false))))))))
theorem laws_FnExactFold.mono_l : ∀ k, (∀ y0 y1 y2 y3 y4 y5 y6 y7 y8 y9, LeO (laws_FnExactFold.j0 k y0 y1 y2 y3 y4 y5 y6 y7 y8 y9) (laws_FnExactFold.j0 (k + 1) y0 y1 y2 y3 y4 y5 y6 y7 y8 y9))
 | 0 => fun _ _ _ _ _ _ _ _ _ _ r h => by simp [laws_FnExactFold.j0] at h
 | k + 1 => by
  have ih0 := laws_FnExactFold.mono_l k
  ·intro y0 y1 y2 y3 y4 y5 y6 y7 y8 y9
   unfold laws_FnExactFold.j0
   repeat' first
   | (with_reducible exact ih0 _ _ _ _ _ _ _ _ _ _)
   | (with_reducible exact impl_Fold.mono _ _ _ _ _ _)
   | (with_reducible exact laws_eqTensor.mono _ _ _ _ _)
   | (with_reducible exact laws_heldTensor.mono _ _ _ _)
   | (with_reducible exact laws_markTensor.mono _ _ _ _)
   | (with_reducible exact laws_toTensor.mono _ _ _)
   | (with_reducible exact spec_Fold.mono _ _ _ _ _ _)
   | (with_reducible exact LeO.refl _)
   | (with_reducible exact LeO.none _)
   | (with_reducible refine LeO.ite ?_ ?_)
   | (with_reducible refine LeO.bind ?_ (fun _ => ?_))
   | exact ih0 _ _ _ _ _ _ _ _ _ _
   | exact impl_Fold.mono _ _ _ _ _ _
   | exact laws_eqTensor.mono _ _ _ _ _
   | exact laws_heldTensor.mono _ _ _ _
   | exact laws_markTensor.mono _ _ _ _
   | exact laws_toTensor.mono _ _ _
   | exact spec_Fold.mono _ _ _ _ _ _
   | exact LeO.none _
   | refine LeO.ite ?_ ?_
   | refine LeO.bind ?_ (fun _ => ?_)
theorem laws_FnExactFold.mono : ∀ a0 a1 a2 a3 a4 k, LeO (laws_FnExactFold.f k a0 a1 a2 a3 a4) (laws_FnExactFold.f (k + 1) a0 a1 a2 a3 a4) := by
 intro a0 a1 a2 a3 a4 k
 have ih0 := laws_FnExactFold.mono_l k
 unfold laws_FnExactFold.f
 repeat' first
   | (with_reducible exact ih0 _ _ _ _ _ _ _ _ _ _)
   | (with_reducible exact impl_Fold.mono _ _ _ _ _ _)
   | (with_reducible exact laws_eqTensor.mono _ _ _ _ _)
   | (with_reducible exact laws_heldTensor.mono _ _ _ _)
   | (with_reducible exact laws_markTensor.mono _ _ _ _)
   | (with_reducible exact laws_toTensor.mono _ _ _)
   | (with_reducible exact spec_Fold.mono _ _ _ _ _ _)
   | (with_reducible exact LeO.refl _)
   | (with_reducible exact LeO.none _)
   | (with_reducible refine LeO.ite ?_ ?_)
   | (with_reducible refine LeO.bind ?_ (fun _ => ?_))
   | exact ih0 _ _ _ _ _ _ _ _ _ _
   | exact impl_Fold.mono _ _ _ _ _ _
   | exact laws_eqTensor.mono _ _ _ _ _
   | exact laws_heldTensor.mono _ _ _ _
   | exact laws_markTensor.mono _ _ _ _
   | exact laws_toTensor.mono _ _ _
   | exact spec_Fold.mono _ _ _ _ _ _
   | exact LeO.none _
   | refine LeO.ite ?_ ?_
   | refine LeO.bind ?_ (fun _ => ?_)
set_option maxHeartbeats 8000000 in
set_option maxRecDepth 100000 in
theorem laws_FnExactFold.calls (k : Nat) (A0_0 : Option Addr) (c0_0 : Nat) (l0_0 : List Int) (A0_1 : Option Addr) (c0_1 : Nat) (l0_1 : List Int) (a1 : Int) (a2 : Int) (a3 : Int) (r : Bool) (w : World) (hrt : r = true) (hr0_0 : Kd.C (Kd.int .i64) w A0_0 l0_0.length l0_0) (hc0_0 : l0_0.length ≤ c0_0) (hr0_1 : Kd.C (Kd.int .i64) w A0_1 l0_1.length l0_1) (hc0_1 : l0_1.length ≤ c0_1) (h : laws_FnExactFold.f k l0_0 l0_1 a1 a2 a3 = some r) :
  Calls Try.prog 6 #[.agg #[.slice A0_0 l0_0.length c0_0, .slice A0_1 l0_1.length c0_1], .int .i64 a1, .int .i64 a2, .int .i64 a3] w fun e w' => e = .returned (.bool r) ∧ Below w.heap.size w w' := by
 have HRT := Aside0.mk hrt
 clear hrt
 have hu24 := Try.underlying24
 have hu26 := Try.underlying26
 have HR0_0 := Aside0.mk hr0_0
 have HC0_0 := Aside0.mk hc0_0
 clear hr0_0 hc0_0
 have HR0_1 := Aside0.mk hr0_1
 have HC0_1 := Aside0.mk hc0_1
 clear hr0_1 hc0_1
 have HB := Aside0.mk (Below.refl w.heap.size w)
 have H : ((laws_szTensor.f l0_0 l0_1 1048576).bind fun t303 => (if t303 < 0 then (some true) else ((laws_toTensor.f k l0_0 l0_1).bind fun bt304 => ((spec_Fold.f k bt304.1 bt304.2 a1 a2 a3).bind fun bt310 => ((laws_toTensor.f k l0_0 l0_1).bind fun bt317 => ((impl_Fold.f k bt317.1 bt317.2 a1 a2 a3).bind fun bt324 => ((laws_eqTensor.f k bt324.1 bt324.2 bt310.1 bt310.2).bind fun t331 => (if t331 = true then ((laws_toTensor.f k l0_0 l0_1).bind fun bt332 => ((laws_eqTensor.f k bt317.1 bt317.2 bt332.1 bt332.2).bind fun t338 => (if t338 = true then ((laws_markTensor.f k bt317.1 bt317.2 1).bind fun bt339 => (if bt339.1 < 0 then (laws_FnExactFold.j0 k a1 a2 a3 true l0_0 l0_1 bt310.1 bt310.2 bt324.1 bt324.2) else ((laws_eqTensor.f k bt324.1 bt324.2 bt310.1 bt310.2).bind fun t342 => (laws_FnExactFold.j0 k a1 a2 a3 (!t342) l0_0 l0_1 bt310.1 bt310.2 bt324.1 bt324.2)))) else (some false)))) else (some false))))))))) = some r := h
 clear h
 replace H := Option.bind_eq_some_iff.mp H
 obtain ⟨t303, A50, H⟩ := H
 replace H : (if t303 < 0 then (some true) else ((laws_toTensor.f k l0_0 l0_1).bind fun bt304 => ((spec_Fold.f k bt304.1 bt304.2 a1 a2 a3).bind fun bt310 => ((laws_toTensor.f k l0_0 l0_1).bind fun bt317 => ((impl_Fold.f k bt317.1 bt317.2 a1 a2 a3).bind fun bt324 => ((laws_eqTensor.f k bt324.1 bt324.2 bt310.1 bt310.2).bind fun t331 => (if t331 = true then ((laws_toTensor.f k l0_0 l0_1).bind fun bt332 => ((laws_eqTensor.f k bt317.1 bt317.2 bt332.1 bt332.2).bind fun t338 => (if t338 = true then ((laws_markTensor.f k bt317.1 bt317.2 1).bind fun bt339 => (if bt339.1 < 0 then (laws_FnExactFold.j0 k a1 a2 a3 true l0_0 l0_1 bt310.1 bt310.2 bt324.1 bt324.2) else ((laws_eqTensor.f k bt324.1 bt324.2 bt310.1 bt310.2).bind fun t342 => (laws_FnExactFold.j0 k a1 a2 a3 (!t342) l0_0 l0_1 bt310.1 bt310.2 bt324.1 bt324.2)))) else (some false)))) else (some false)))))))) = some r := H
 have A5 := Aside0.mk A50
 clear A50
 by_cases c6 : t303 < 0
 ·rw [if_pos c6] at H
  have c6b0 : decide (t303 < 0) = true := decide_eq_true c6
  clear c6
  obtain rfl := Option.some.inj H
  go_enter Try.func6, Try.ntmps6
  go_wp2_with (first | ((with_reducible refine gate_dst (N := 4) rfl ?_); refine box_event ?hg (N := 4) ?hd (cs := #[.slice A0_0 l0_0.length c0_0, .slice A0_1 l0_1.length c0_1]) (t := 24) ?hr ?_; (case hd => rfl); (case hg => rfl); (case hr => first | (go_simp; done) | (go_simp; rfl)); intro gb302 hg w7 hbox hb; have BK302 := Aside0.mk (hbox); have GW302 := Aside0.mk ((by rw [hg]; exact (below_size (Hu HB.out)) : w.heap.size ≤ gb302)); have GE302 := Aside0.mk ((by rw [hg]; exact (below_size (Hu HB.out)) : w.heap.size ≤ gb302)); replace HB := Aside0.mk (below_step (Hu HB.out) hb); clear hb hbox hg; have hcz8_0 : w7.cell? ⟨gb302, 0, none⟩ = some (.slice A0_0 l0_0.length c0_0) := (blk_cell BK302.out 0).trans rfl; have hcz8_1 : w7.cell? ⟨gb302, 1, none⟩ = some (.slice A0_1 l0_1.length c0_1) := (blk_cell BK302.out 1).trans rfl; have hfz8_0 := blk_frozen BK302.out 0; have hfz8_1 := blk_frozen BK302.out 1) | ((with_reducible refine gate_callee (f := 9) rfl ?_); refine goesL_ (some 19) rfl rfl Try.func9 (by kernel_rfl) rfl #[.agg #[.slice A0_0 l0_0.length c0_0, .slice A0_1 l0_1.length c0_1], .int .i64 1048576] rfl (by (try simp only [List.map_toArray, List.map_cons, List.map_nil]); first | done | rfl | (simp only [List.length_drop, List.length_take]; rfl)) ?_; (with_reducible refine (laws_szTensor.calls _ _ l0_0 _ _ l0_1 1048576 t303 _ ?side1 ?side2 ?side3 ?side4 A5.out).mono ?_); (case side1 => exact (Cu ((Kd.C_below HR0_0.out HB.out)))); (case side2 => exact HC0_0.out); (case side3 => exact (Cu ((Kd.C_below HR0_1.out HB.out)))); (case side4 => exact HC0_1.out); rintro e w9 ⟨rfl, hb⟩; refine ⟨_, rfl, ?_⟩; replace BK302 := Aside0.mk (Bb BK302.out hb); replace HB := Aside0.mk (below_step (HBu HB.out) hb); (try clear hb); (try clear hb2); (try clear hk); (try clear hi)))
  go_ret
  exact ⟨by first | rfl | (simp [errW_none, errW_some] <;> rfl) | (simp [*, errW_none, errW_some] <;> rfl), HBu HB.out⟩
 ·rw [if_neg c6] at H
  have c6b0 : decide (t303 < 0) = false := decide_eq_false c6
  clear c6
  replace H := Option.bind_eq_some_iff.mp H
  obtain ⟨⟨t304, t307⟩, A100, H⟩ := H
  replace H : ((spec_Fold.f k t304 t307 a1 a2 a3).bind fun bt310 => ((laws_toTensor.f k l0_0 l0_1).bind fun bt317 => ((impl_Fold.f k bt317.1 bt317.2 a1 a2 a3).bind fun bt324 => ((laws_eqTensor.f k bt324.1 bt324.2 bt310.1 bt310.2).bind fun t331 => (if t331 = true then ((laws_toTensor.f k l0_0 l0_1).bind fun bt332 => ((laws_eqTensor.f k bt317.1 bt317.2 bt332.1 bt332.2).bind fun t338 => (if t338 = true then ((laws_markTensor.f k bt317.1 bt317.2 1).bind fun bt339 => (if bt339.1 < 0 then (laws_FnExactFold.j0 k a1 a2 a3 true l0_0 l0_1 bt310.1 bt310.2 bt324.1 bt324.2) else ((laws_eqTensor.f k bt324.1 bt324.2 bt310.1 bt310.2).bind fun t342 => (laws_FnExactFold.j0 k a1 a2 a3 (!t342) l0_0 l0_1 bt310.1 bt310.2 bt324.1 bt324.2)))) else (some false)))) else (some false)))))) = some r := H
  have A10 := Aside0.mk A100
  clear A100
  replace H := Option.bind_eq_some_iff.mp H
  obtain ⟨⟨t310, t313⟩, A110, H⟩ := H
  replace H : ((laws_toTensor.f k l0_0 l0_1).bind fun bt317 => ((impl_Fold.f k bt317.1 bt317.2 a1 a2 a3).bind fun bt324 => ((laws_eqTensor.f k bt324.1 bt324.2 t310 t313).bind fun t331 => (if t331 = true then ((laws_toTensor.f k l0_0 l0_1).bind fun bt332 => ((laws_eqTensor.f k bt317.1 bt317.2 bt332.1 bt332.2).bind fun t338 => (if t338 = true then ((laws_markTensor.f k bt317.1 bt317.2 1).bind fun bt339 => (if bt339.1 < 0 then (laws_FnExactFold.j0 k a1 a2 a3 true l0_0 l0_1 t310 t313 bt324.1 bt324.2) else ((laws_eqTensor.f k bt324.1 bt324.2 t310 t313).bind fun t342 => (laws_FnExactFold.j0 k a1 a2 a3 (!t342) l0_0 l0_1 t310 t313 bt324.1 bt324.2)))) else (some false)))) else (some false))))) = some r := H
  have A11 := Aside0.mk A110
  clear A110
  replace H := Option.bind_eq_some_iff.mp H
  obtain ⟨⟨t317, t320⟩, A120, H⟩ := H
  replace H : ((impl_Fold.f k t317 t320 a1 a2 a3).bind fun bt324 => ((laws_eqTensor.f k bt324.1 bt324.2 t310 t313).bind fun t331 => (if t331 = true then ((laws_toTensor.f k l0_0 l0_1).bind fun bt332 => ((laws_eqTensor.f k t317 t320 bt332.1 bt332.2).bind fun t338 => (if t338 = true then ((laws_markTensor.f k t317 t320 1).bind fun bt339 => (if bt339.1 < 0 then (laws_FnExactFold.j0 k a1 a2 a3 true l0_0 l0_1 t310 t313 bt324.1 bt324.2) else ((laws_eqTensor.f k bt324.1 bt324.2 t310 t313).bind fun t342 => (laws_FnExactFold.j0 k a1 a2 a3 (!t342) l0_0 l0_1 t310 t313 bt324.1 bt324.2)))) else (some false)))) else (some false)))) = some r := H
  have A12 := Aside0.mk A120
  clear A120
  replace H := Option.bind_eq_some_iff.mp H
  obtain ⟨⟨t324, t327⟩, A130, H⟩ := H
  replace H : ((laws_eqTensor.f k t324 t327 t310 t313).bind fun t331 => (if t331 = true then ((laws_toTensor.f k l0_0 l0_1).bind fun bt332 => ((laws_eqTensor.f k t317 t320 bt332.1 bt332.2).bind fun t338 => (if t338 = true then ((laws_markTensor.f k t317 t320 1).bind fun bt339 => (if bt339.1 < 0 then (laws_FnExactFold.j0 k a1 a2 a3 true l0_0 l0_1 t310 t313 t324 t327) else ((laws_eqTensor.f k t324 t327 t310 t313).bind fun t342 => (laws_FnExactFold.j0 k a1 a2 a3 (!t342) l0_0 l0_1 t310 t313 t324 t327)))) else (some false)))) else (some false))) = some r := H
  have A13 := Aside0.mk A130
  clear A130
  replace H := Option.bind_eq_some_iff.mp H
  obtain ⟨t331, A140, H⟩ := H
  replace H : (if t331 = true then ((laws_toTensor.f k l0_0 l0_1).bind fun bt332 => ((laws_eqTensor.f k t317 t320 bt332.1 bt332.2).bind fun t338 => (if t338 = true then ((laws_markTensor.f k t317 t320 1).bind fun bt339 => (if bt339.1 < 0 then (laws_FnExactFold.j0 k a1 a2 a3 true l0_0 l0_1 t310 t313 t324 t327) else ((laws_eqTensor.f k t324 t327 t310 t313).bind fun t342 => (laws_FnExactFold.j0 k a1 a2 a3 (!t342) l0_0 l0_1 t310 t313 t324 t327)))) else (some false)))) else (some false)) = some r := H
  have A14 := Aside0.mk A140
  clear A140
  by_cases c15 : t331 = true
  ·subst c15
   have H1 : ((laws_toTensor.f k l0_0 l0_1).bind fun bt332 => ((laws_eqTensor.f k t317 t320 bt332.1 bt332.2).bind fun t338 => (if t338 = true then ((laws_markTensor.f k t317 t320 1).bind fun bt339 => (if bt339.1 < 0 then (laws_FnExactFold.j0 k a1 a2 a3 true l0_0 l0_1 t310 t313 t324 t327) else ((laws_eqTensor.f k t324 t327 t310 t313).bind fun t342 => (laws_FnExactFold.j0 k a1 a2 a3 (!t342) l0_0 l0_1 t310 t313 t324 t327)))) else (some false)))) = some r := by rw [if_pos rfl] at H; exact H
   clear H
   have H := H1
   clear H1
   replace H := Option.bind_eq_some_iff.mp H
   obtain ⟨⟨t332, t335⟩, A160, H⟩ := H
   replace H : ((laws_eqTensor.f k t317 t320 t332 t335).bind fun t338 => (if t338 = true then ((laws_markTensor.f k t317 t320 1).bind fun bt339 => (if bt339.1 < 0 then (laws_FnExactFold.j0 k a1 a2 a3 true l0_0 l0_1 t310 t313 t324 t327) else ((laws_eqTensor.f k t324 t327 t310 t313).bind fun t342 => (laws_FnExactFold.j0 k a1 a2 a3 (!t342) l0_0 l0_1 t310 t313 t324 t327)))) else (some false))) = some r := H
   have A16 := Aside0.mk A160
   clear A160
   replace H := Option.bind_eq_some_iff.mp H
   obtain ⟨t338, A170, H⟩ := H
   replace H : (if t338 = true then ((laws_markTensor.f k t317 t320 1).bind fun bt339 => (if bt339.1 < 0 then (laws_FnExactFold.j0 k a1 a2 a3 true l0_0 l0_1 t310 t313 t324 t327) else ((laws_eqTensor.f k t324 t327 t310 t313).bind fun t342 => (laws_FnExactFold.j0 k a1 a2 a3 (!t342) l0_0 l0_1 t310 t313 t324 t327)))) else (some false)) = some r := H
   have A17 := Aside0.mk A170
   clear A170
   by_cases c18 : t338 = true
   ·subst c18
    have H1 : ((laws_markTensor.f k t317 t320 1).bind fun bt339 => (if bt339.1 < 0 then (laws_FnExactFold.j0 k a1 a2 a3 true l0_0 l0_1 t310 t313 t324 t327) else ((laws_eqTensor.f k t324 t327 t310 t313).bind fun t342 => (laws_FnExactFold.j0 k a1 a2 a3 (!t342) l0_0 l0_1 t310 t313 t324 t327)))) = some r := by rw [if_pos rfl] at H; exact H
    clear H
    have H := H1
    clear H1
    replace H := Option.bind_eq_some_iff.mp H
    obtain ⟨⟨t339, t340, t341⟩, A190, H⟩ := H
    replace H : (if t339 < 0 then (laws_FnExactFold.j0 k a1 a2 a3 true l0_0 l0_1 t310 t313 t324 t327) else ((laws_eqTensor.f k t324 t327 t310 t313).bind fun t342 => (laws_FnExactFold.j0 k a1 a2 a3 (!t342) l0_0 l0_1 t310 t313 t324 t327))) = some r := H
    have A19 := Aside0.mk A190
    clear A190
    have HC20 := Aside0.mk H
    clear H
    go_enter Try.func6, Try.ntmps6
    try go_wp2_with (first | ((with_reducible refine gate_dst (N := 4) rfl ?_); refine box_event ?hg (N := 4) ?hd (cs := #[.slice A0_0 l0_0.length c0_0, .slice A0_1 l0_1.length c0_1]) (t := 24) ?hr ?_; (case hd => rfl); (case hg => rfl); (case hr => first | (go_simp; done) | (go_simp; rfl)); intro gb302 hg w21 hbox hb; have BK302 := Aside0.mk (hbox); have GW302 := Aside0.mk ((by rw [hg]; exact (below_size (Hu HB.out)) : w.heap.size ≤ gb302)); have GE302 := Aside0.mk ((by rw [hg]; exact (below_size (Hu HB.out)) : w.heap.size ≤ gb302)); replace HB := Aside0.mk (below_step (Hu HB.out) hb); clear hb hbox hg; have hcz22_0 : w21.cell? ⟨gb302, 0, none⟩ = some (.slice A0_0 l0_0.length c0_0) := (blk_cell BK302.out 0).trans rfl; have hcz22_1 : w21.cell? ⟨gb302, 1, none⟩ = some (.slice A0_1 l0_1.length c0_1) := (blk_cell BK302.out 1).trans rfl; have hfz22_0 := blk_frozen BK302.out 0; have hfz22_1 := blk_frozen BK302.out 1) | ((with_reducible refine gate_callee (f := 9) rfl ?_); refine goesL_ (some 19) rfl rfl Try.func9 (by kernel_rfl) rfl #[.agg #[.slice A0_0 l0_0.length c0_0, .slice A0_1 l0_1.length c0_1], .int .i64 1048576] rfl (by (try simp only [List.map_toArray, List.map_cons, List.map_nil]); first | done | rfl | (simp only [List.length_drop, List.length_take]; rfl)) ?_; (with_reducible refine (laws_szTensor.calls _ _ l0_0 _ _ l0_1 1048576 t303 _ ?side1 ?side2 ?side3 ?side4 A5.out).mono ?_); (case side1 => exact (Cu ((Kd.C_below HR0_0.out HB.out)))); (case side2 => exact HC0_0.out); (case side3 => exact (Cu ((Kd.C_below HR0_1.out HB.out)))); (case side4 => exact HC0_1.out); rintro e w23 ⟨rfl, hb⟩; refine ⟨_, rfl, ?_⟩; replace BK302 := Aside0.mk (Bb BK302.out hb); replace HB := Aside0.mk (below_step (HBu HB.out) hb); (try clear hb); (try clear hb2); (try clear hk); (try clear hi); have hcz24_0 : w23.cell? ⟨gb302, 0, none⟩ = some (.slice A0_0 l0_0.length c0_0) := (blk_cell BK302.out 0).trans rfl; have hcz24_1 : w23.cell? ⟨gb302, 1, none⟩ = some (.slice A0_1 l0_1.length c0_1) := (blk_cell BK302.out 1).trans rfl; have hfz24_0 := blk_frozen BK302.out 0; have hfz24_1 := blk_frozen BK302.out 1) | ((with_reducible refine gate_callee (f := 11) rfl ?_); refine goesL_ (some 23) rfl rfl Try.func11 (by kernel_rfl) rfl #[.agg #[.slice A0_0 l0_0.length c0_0, .slice A0_1 l0_1.length c0_1]] rfl (by (try simp only [List.map_toArray, List.map_cons, List.map_nil]); first | done | rfl | (simp only [List.length_drop, List.length_take]; rfl)) ?_; (with_reducible refine (laws_toTensor.calls k _ _ l0_0 _ _ l0_1 t304 t307 _ ?side1 ?side2 ?side3 ?side4 A10.out).mono ?_); (case side1 => exact (Cu ((Kd.C_below HR0_0.out HB.out)))); (case side2 => exact HC0_0.out); (case side3 => exact (Cu ((Kd.C_below HR0_1.out HB.out)))); (case side4 => exact HC0_1.out); rintro e w25 ⟨v305, v308, rfl, ho0, ho1, hb⟩; refine ⟨_, rfl, ?_⟩; have HO306 := Aside0.mk (Kd.R_lower ho0 (below_size (HBu HB.out))); have HO309 := Aside0.mk (Kd.R_lower ho1 (below_size (HBu HB.out))); replace BK302 := Aside0.mk (Bb BK302.out hb); replace HB := Aside0.mk (below_step (HBu HB.out) hb); (try clear hb); (try clear hb2); (try clear hk); (try clear hi); (try clear ho0); (try clear ho1); obtain ⟨Ao26, co26, eo26⟩ := Kd.R_slice HO306.out; subst eo26; obtain ⟨Ao27, co27, eo27⟩ := Kd.R_slice HO309.out; subst eo27) | ((with_reducible refine gate_callee (f := 27) rfl ?_); refine goesL_ (some 27) rfl rfl Try.func27 (by kernel_rfl) rfl #[.agg #[.slice Ao26 t304.length co26, .slice Ao27 t307.length co27], .int .i64 a1, .int .i64 a2, .int .i64 a3] rfl (by (try simp only [List.map_toArray, List.map_cons, List.map_nil]); first | done | rfl | (simp only [List.length_drop, List.length_take]; rfl)) ?_; (with_reducible refine (spec_Fold.calls k _ _ t304 _ _ t307 a1 a2 a3 t310 t313 _ ?side1 ?side2 ?side3 ?side4 A11.out).mono ?_); (case side1 => exact (Cu ((Kd.R_reads' HO306.out).2.2))); (case side2 => exact (Kd.R_reads' HO306.out).2.1); (case side3 => exact (Cu ((Kd.R_reads' HO309.out).2.2))); (case side4 => exact (Kd.R_reads' HO309.out).2.1); rintro e w28 ⟨v311, v314, rfl, ho0, ho1, hb⟩; refine ⟨_, rfl, ?_⟩; have HO312 := Aside0.mk (Kd.R_lower (Kd.R_new' (Kd.R_new' ho0 (Kd.R_lt (Ru HO306.out))) (Kd.R_lt (Ru HO309.out))) (below_size (HBu HB.out))); have HO315 := Aside0.mk (Kd.R_lower (Kd.R_new' (Kd.R_new' ho1 (Kd.R_lt (Ru HO306.out))) (Kd.R_lt (Ru HO309.out))) (below_size (HBu HB.out))); replace HO306 := Aside0.mk (Rt2 HO306.out hb ho0 ho1); replace HO309 := Aside0.mk (Rt2 HO309.out hb ho0 ho1); replace BK302 := Aside0.mk (Bb BK302.out hb); replace HB := Aside0.mk (below_step (HBu HB.out) hb); (try clear hb); (try clear hb2); (try clear hk); (try clear hi); (try clear ho0); (try clear ho1)) | ((with_reducible refine gate_dst (N := 10) rfl ?_); refine box_event ?hg (N := 10) ?hd (cs := #[.slice none 0 0, .slice none 0 0]) (t := 26) ?hr ?_; (case hd => rfl); (case hg => rfl); (case hr => first | (go_simp; done) | (go_simp; rfl)); intro gb316 hg w29 hbox hb; have BK316 := Aside0.mk (hbox); have GW316 := Aside0.mk ((by rw [hg]; exact (below_size (HBu HB.out)) : w.heap.size ≤ gb316)); have GE316 := Aside0.mk ((by rw [hg]; exact (below_size (HBu HB.out)) : w.heap.size ≤ gb316)); have NB302_316 := Aside0.mk ((by rw [hg]; exact Nat.ne_of_lt (blk_lt (g := gb302) (o := .cells #[.slice A0_0 l0_0.length c0_0, .slice A0_1 l0_1.length c0_1] 24 (0, 0)) (Bu BK302.out)) : gb302 ≠ gb316)); have NB316_302 := Aside0.mk ((by rw [hg]; exact Nat.ne_of_gt (blk_lt (g := gb302) (o := .cells #[.slice A0_0 l0_0.length c0_0, .slice A0_1 l0_1.length c0_1] 24 (0, 0)) (Bu BK302.out)) : gb316 ≠ gb302)); replace HO306 := Aside0.mk (Rb HO306.out hb); replace HO309 := Aside0.mk (Rb HO309.out hb); replace HO312 := Aside0.mk (Rb HO312.out hb); replace HO315 := Aside0.mk (Rb HO315.out hb); replace BK302 := Aside0.mk (Bb BK302.out hb); replace HB := Aside0.mk (below_step (HBu HB.out) hb); clear hb hbox hg; obtain ⟨Ao30, co30, eo30⟩ := Kd.R_slice HO312.out; subst eo30; have hnb31 := NB316_302.out; have hnc31 := NB302_316.out; have hcz32_0 : w29.cell? ⟨gb316, 0, none⟩ = some (.slice none 0 0) := (blk_cell BK316.out 0).trans rfl; have hcz32_1 : w29.cell? ⟨gb316, 1, none⟩ = some (.slice none 0 0) := (blk_cell BK316.out 1).trans rfl; have hfz32_0 := blk_frozen BK316.out 0; have hfz32_1 := blk_frozen BK316.out 1; obtain ⟨Ao33, co33, eo33⟩ := Kd.R_slice HO315.out; subst eo33; have hcz34_0 : w29.cell? ⟨gb302, 0, none⟩ = some (.slice A0_0 l0_0.length c0_0) := (blk_cell BK302.out 0).trans rfl; have hcz34_1 : w29.cell? ⟨gb302, 1, none⟩ = some (.slice A0_1 l0_1.length c0_1) := (blk_cell BK302.out 1).trans rfl; have hfz34_0 := blk_frozen BK302.out 0; have hfz34_1 := blk_frozen BK302.out 1) | ((with_reducible refine gate_callee (f := 11) rfl ?_); refine goesL_ (some 29) rfl rfl Try.func11 (by kernel_rfl) rfl #[.agg #[.slice A0_0 l0_0.length c0_0, .slice A0_1 l0_1.length c0_1]] rfl (by (try simp only [List.map_toArray, List.map_cons, List.map_nil]); first | done | rfl | (simp only [List.length_drop, List.length_take]; rfl)) ?_; (with_reducible refine (laws_toTensor.calls k _ _ l0_0 _ _ l0_1 t317 t320 _ ?side1 ?side2 ?side3 ?side4 A12.out).mono ?_); (case side1 => exact Kd.C_below HR0_0.out (HBu HB.out)); (case side2 => exact HC0_0.out); (case side3 => exact Kd.C_below HR0_1.out (HBu HB.out)); (case side4 => exact HC0_1.out); rintro e w35 ⟨v318, v321, rfl, ho0, ho1, hb⟩; refine ⟨_, rfl, ?_⟩; have HO319 := Aside0.mk (Kd.R_lower (Kd.R_new' (Kd.R_new' (Kd.R_new' (Kd.R_new' ho0 (Kd.R_lt (Ru (Rf2 HO306.out BK316.out (by decide) (.slice Ao30 t310.length co30) (.slice Ao33 t313.length co33))))) (Kd.R_lt (Ru (Rf2 HO309.out BK316.out (by decide) (.slice Ao30 t310.length co30) (.slice Ao33 t313.length co33))))) (Kd.R_lt (Ru (Rf2 HO312.out BK316.out (by decide) (.slice Ao30 t310.length co30) (.slice Ao33 t313.length co33))))) (Kd.R_lt (Ru (Rf2 HO315.out BK316.out (by decide) (.slice Ao30 t310.length co30) (.slice Ao33 t313.length co33))))) (below_size (HBu HB.out))); have HO322 := Aside0.mk (Kd.R_lower (Kd.R_new' (Kd.R_new' (Kd.R_new' (Kd.R_new' ho1 (Kd.R_lt (Ru (Rf2 HO306.out BK316.out (by decide) (.slice Ao30 t310.length co30) (.slice Ao33 t313.length co33))))) (Kd.R_lt (Ru (Rf2 HO309.out BK316.out (by decide) (.slice Ao30 t310.length co30) (.slice Ao33 t313.length co33))))) (Kd.R_lt (Ru (Rf2 HO312.out BK316.out (by decide) (.slice Ao30 t310.length co30) (.slice Ao33 t313.length co33))))) (Kd.R_lt (Ru (Rf2 HO315.out BK316.out (by decide) (.slice Ao30 t310.length co30) (.slice Ao33 t313.length co33))))) (below_size (HBu HB.out))); replace HO306 := Aside0.mk (Kd.R_mono (Kd.R_told (Kd.R_told (Kd.R_old (Ru (Rf2 HO306.out BK316.out (by decide) (.slice Ao30 t310.length co30) (.slice Ao33 t313.length co33))) hb) (Kd.R_base ho0)) (Kd.R_base ho1)) (fun _ h_ => h_.1)); replace HO309 := Aside0.mk (Kd.R_mono (Kd.R_told (Kd.R_told (Kd.R_old (Ru (Rf2 HO309.out BK316.out (by decide) (.slice Ao30 t310.length co30) (.slice Ao33 t313.length co33))) hb) (Kd.R_base ho0)) (Kd.R_base ho1)) (fun _ h_ => h_.1)); replace HO312 := Aside0.mk (Kd.R_mono (Kd.R_told (Kd.R_told (Kd.R_old (Ru (Rf2 HO312.out BK316.out (by decide) (.slice Ao30 t310.length co30) (.slice Ao33 t313.length co33))) hb) (Kd.R_base ho0)) (Kd.R_base ho1)) (fun _ h_ => h_.1)); replace HO315 := Aside0.mk (Kd.R_mono (Kd.R_told (Kd.R_told (Kd.R_old (Ru (Rf2 HO315.out BK316.out (by decide) (.slice Ao30 t310.length co30) (.slice Ao33 t313.length co33))) hb) (Kd.R_base ho0)) (Kd.R_base ho1)) (fun _ h_ => h_.1)); replace BK302 := Aside0.mk (blk_below (g := gb302) (o := .cells #[.slice A0_0 l0_0.length c0_0, .slice A0_1 l0_1.length c0_1] 24 (0, 0)) (by (with_reducible repeat (first | refine blk_drewN ?_ _ | refine blk_drew ?_ | refine blk_alloc ?_ _)); refine blk_far ?_ NB302_316.out _; (with_reducible repeat (first | refine blk_drewN ?_ _ | refine blk_drew ?_ | refine blk_alloc ?_ _)); refine blk_far ?_ NB302_316.out _; (with_reducible repeat (first | refine blk_drewN ?_ _ | refine blk_drew ?_ | refine blk_alloc ?_ _)); exact BK302.out) hb); replace BK316 := Aside0.mk (blk_below (g := gb316) (o := .cells #[.slice Ao30 t310.length co30, .slice Ao33 t313.length co33] 26 (0, 0)) (by (with_reducible repeat (first | refine blk_drewN ?_ _ | refine blk_drew ?_ | refine blk_alloc ?_ _)); refine blk_put (cs := #[.slice Ao30 t310.length co30, .slice none 0 0]) ?_ 1 _ rfl; (with_reducible repeat (first | refine blk_drewN ?_ _ | refine blk_drew ?_ | refine blk_alloc ?_ _)); refine blk_put (cs := #[.slice none 0 0, .slice none 0 0]) ?_ 0 _ rfl; (with_reducible repeat (first | refine blk_drewN ?_ _ | refine blk_drew ?_ | refine blk_alloc ?_ _)); exact BK316.out) hb); replace HB := Aside0.mk (below_step (HBu HB.out) hb); (try clear hb); (try clear hb2); (try clear hk); (try clear hi); (try clear ho0); (try clear ho1)) | ((with_reducible refine gate_dst (N := 11) rfl ?_); refine box_event ?hg (N := 11) ?hd (cs := #[.slice none 0 0, .slice none 0 0]) (t := 26) ?hr ?_; (case hd => rfl); (case hg => rfl); (case hr => first | (go_simp; done) | (go_simp; rfl)); intro gb323 hg w36 hbox hb; have BK323 := Aside0.mk (hbox); have GW323 := Aside0.mk ((by rw [hg]; exact (below_size (HBu HB.out)) : w.heap.size ≤ gb323)); have GE323 := Aside0.mk ((by rw [hg]; exact (below_size (HBu HB.out)) : w.heap.size ≤ gb323)); have NB302_323 := Aside0.mk ((by rw [hg]; exact Nat.ne_of_lt (blk_lt (g := gb302) (o := .cells #[.slice A0_0 l0_0.length c0_0, .slice A0_1 l0_1.length c0_1] 24 (0, 0)) (Bu BK302.out)) : gb302 ≠ gb323)); have NB323_302 := Aside0.mk ((by rw [hg]; exact Nat.ne_of_gt (blk_lt (g := gb302) (o := .cells #[.slice A0_0 l0_0.length c0_0, .slice A0_1 l0_1.length c0_1] 24 (0, 0)) (Bu BK302.out)) : gb323 ≠ gb302)); have NB316_323 := Aside0.mk ((by rw [hg]; exact Nat.ne_of_lt (blk_lt (g := gb316) (o := .cells #[.slice Ao30 t310.length co30, .slice Ao33 t313.length co33] 26 (0, 0)) (Bu BK316.out)) : gb316 ≠ gb323)); have NB323_316 := Aside0.mk ((by rw [hg]; exact Nat.ne_of_gt (blk_lt (g := gb316) (o := .cells #[.slice Ao30 t310.length co30, .slice Ao33 t313.length co33] 26 (0, 0)) (Bu BK316.out)) : gb323 ≠ gb316)); replace HO306 := Aside0.mk (Rb HO306.out hb); replace HO309 := Aside0.mk (Rb HO309.out hb); replace HO312 := Aside0.mk (Rb HO312.out hb); replace HO315 := Aside0.mk (Rb HO315.out hb); replace HO319 := Aside0.mk (Rb HO319.out hb); replace HO322 := Aside0.mk (Rb HO322.out hb); replace BK302 := Aside0.mk (Bb BK302.out hb); replace BK316 := Aside0.mk (Bb BK316.out hb); replace HB := Aside0.mk (below_step (HBu HB.out) hb); clear hb hbox hg; obtain ⟨Ao37, co37, eo37⟩ := Kd.R_slice HO319.out; subst eo37; have hnb38 := NB323_302.out; have hnc38 := NB302_323.out; have hnb39 := NB323_316.out; have hnc39 := NB316_323.out; have hcz40_0 : w36.cell? ⟨gb323, 0, none⟩ = some (.slice none 0 0) := (blk_cell BK323.out 0).trans rfl; have hcz40_1 : w36.cell? ⟨gb323, 1, none⟩ = some (.slice none 0 0) := (blk_cell BK323.out 1).trans rfl; have hfz40_0 := blk_frozen BK323.out 0; have hfz40_1 := blk_frozen BK323.out 1; obtain ⟨Ao41, co41, eo41⟩ := Kd.R_slice HO322.out; subst eo41) | ((with_reducible refine gate_callee (f := 28) rfl ?_); refine goesL_ (some 34) rfl rfl Try.func28 (by kernel_rfl) rfl #[.agg #[.slice Ao37 t317.length co37, .slice Ao41 t320.length co41], .int .i64 a1, .int .i64 a2, .int .i64 a3] rfl (by (try simp only [List.map_toArray, List.map_cons, List.map_nil]); first | done | rfl | (simp only [List.length_drop, List.length_take]; rfl)) ?_; (with_reducible refine (impl_Fold.calls k _ _ t317 _ _ t320 a1 a2 a3 t324 t327 _ ?side1 ?side2 ?side3 ?side4 A13.out).mono ?_); (case side1 => refine (Kd.R_reads' (e := 3) (base := w.heap.size) (ok := fun k_ => ((((some k_ ≠ (.slice Ao41 t320.length co41 : Value).ownBlock ∧ some k_ ≠ (.slice Ao26 t304.length co26 : Value).ownBlock) ∧ some k_ ≠ (.slice Ao27 t307.length co27 : Value).ownBlock) ∧ some k_ ≠ (.slice Ao30 t310.length co30 : Value).ownBlock) ∧ some k_ ≠ (.slice Ao33 t313.length co33 : Value).ownBlock)) (n := t317.length) (c := co37) ?_).2.2; exact (Ru (Rf2 HO319.out BK323.out (by decide) (.slice Ao37 t317.length co37) (.slice Ao41 t320.length co41)))); (case side2 => exact (Kd.R_reads' HO319.out).2.1); (case side3 => refine (Kd.R_reads' (e := 3) (base := w.heap.size) (ok := fun k_ => ((((some k_ ≠ (.slice Ao37 t317.length co37 : Value).ownBlock ∧ some k_ ≠ (.slice Ao26 t304.length co26 : Value).ownBlock) ∧ some k_ ≠ (.slice Ao27 t307.length co27 : Value).ownBlock) ∧ some k_ ≠ (.slice Ao30 t310.length co30 : Value).ownBlock) ∧ some k_ ≠ (.slice Ao33 t313.length co33 : Value).ownBlock)) (n := t320.length) (c := co41) ?_).2.2; exact (Ru (Rf2 HO322.out BK323.out (by decide) (.slice Ao37 t317.length co37) (.slice Ao41 t320.length co41)))); (case side4 => exact (Kd.R_reads' HO322.out).2.1); rintro e w42 ⟨v325, v328, rfl, ho0, ho1, hb⟩; refine ⟨_, rfl, ?_⟩; have HO326 := Aside0.mk (Kd.R_lower (Kd.R_new' (Kd.R_new' (Kd.R_new' (Kd.R_new' (Kd.R_new' (Kd.R_new' ho0 (Kd.R_lt (Ru (Rf2 HO306.out BK323.out (by decide) (.slice Ao37 t317.length co37) (.slice Ao41 t320.length co41))))) (Kd.R_lt (Ru (Rf2 HO309.out BK323.out (by decide) (.slice Ao37 t317.length co37) (.slice Ao41 t320.length co41))))) (Kd.R_lt (Ru (Rf2 HO312.out BK323.out (by decide) (.slice Ao37 t317.length co37) (.slice Ao41 t320.length co41))))) (Kd.R_lt (Ru (Rf2 HO315.out BK323.out (by decide) (.slice Ao37 t317.length co37) (.slice Ao41 t320.length co41))))) (Kd.R_lt (Ru (Rf2 HO319.out BK323.out (by decide) (.slice Ao37 t317.length co37) (.slice Ao41 t320.length co41))))) (Kd.R_lt (Ru (Rf2 HO322.out BK323.out (by decide) (.slice Ao37 t317.length co37) (.slice Ao41 t320.length co41))))) (below_size (HBu HB.out))); have HO329 := Aside0.mk (Kd.R_lower (Kd.R_new' (Kd.R_new' (Kd.R_new' (Kd.R_new' (Kd.R_new' (Kd.R_new' ho1 (Kd.R_lt (Ru (Rf2 HO306.out BK323.out (by decide) (.slice Ao37 t317.length co37) (.slice Ao41 t320.length co41))))) (Kd.R_lt (Ru (Rf2 HO309.out BK323.out (by decide) (.slice Ao37 t317.length co37) (.slice Ao41 t320.length co41))))) (Kd.R_lt (Ru (Rf2 HO312.out BK323.out (by decide) (.slice Ao37 t317.length co37) (.slice Ao41 t320.length co41))))) (Kd.R_lt (Ru (Rf2 HO315.out BK323.out (by decide) (.slice Ao37 t317.length co37) (.slice Ao41 t320.length co41))))) (Kd.R_lt (Ru (Rf2 HO319.out BK323.out (by decide) (.slice Ao37 t317.length co37) (.slice Ao41 t320.length co41))))) (Kd.R_lt (Ru (Rf2 HO322.out BK323.out (by decide) (.slice Ao37 t317.length co37) (.slice Ao41 t320.length co41))))) (below_size (HBu HB.out))); replace HO306 := Aside0.mk (Kd.R_mono (Kd.R_told (Kd.R_told (Kd.R_old (Ru (Rf2 HO306.out BK323.out (by decide) (.slice Ao37 t317.length co37) (.slice Ao41 t320.length co41))) hb) (Kd.R_base ho0)) (Kd.R_base ho1)) (fun _ h_ => h_.1)); replace HO309 := Aside0.mk (Kd.R_mono (Kd.R_told (Kd.R_told (Kd.R_old (Ru (Rf2 HO309.out BK323.out (by decide) (.slice Ao37 t317.length co37) (.slice Ao41 t320.length co41))) hb) (Kd.R_base ho0)) (Kd.R_base ho1)) (fun _ h_ => h_.1)); replace HO312 := Aside0.mk (Kd.R_mono (Kd.R_told (Kd.R_told (Kd.R_old (Ru (Rf2 HO312.out BK323.out (by decide) (.slice Ao37 t317.length co37) (.slice Ao41 t320.length co41))) hb) (Kd.R_base ho0)) (Kd.R_base ho1)) (fun _ h_ => h_.1)); replace HO315 := Aside0.mk (Kd.R_mono (Kd.R_told (Kd.R_told (Kd.R_old (Ru (Rf2 HO315.out BK323.out (by decide) (.slice Ao37 t317.length co37) (.slice Ao41 t320.length co41))) hb) (Kd.R_base ho0)) (Kd.R_base ho1)) (fun _ h_ => h_.1)); replace HO319 := Aside0.mk (Kd.R_mono (Kd.R_told (Kd.R_told (Kd.R_old (Ru (Rf2 HO319.out BK323.out (by decide) (.slice Ao37 t317.length co37) (.slice Ao41 t320.length co41))) hb) (Kd.R_base ho0)) (Kd.R_base ho1)) (fun _ h_ => h_.1)); replace HO322 := Aside0.mk (Kd.R_mono (Kd.R_told (Kd.R_told (Kd.R_old (Ru (Rf2 HO322.out BK323.out (by decide) (.slice Ao37 t317.length co37) (.slice Ao41 t320.length co41))) hb) (Kd.R_base ho0)) (Kd.R_base ho1)) (fun _ h_ => h_.1)); replace BK302 := Aside0.mk (blk_below (g := gb302) (o := .cells #[.slice A0_0 l0_0.length c0_0, .slice A0_1 l0_1.length c0_1] 24 (0, 0)) (by (with_reducible repeat (first | refine blk_drewN ?_ _ | refine blk_drew ?_ | refine blk_alloc ?_ _)); refine blk_far ?_ NB302_323.out _; (with_reducible repeat (first | refine blk_drewN ?_ _ | refine blk_drew ?_ | refine blk_alloc ?_ _)); refine blk_far ?_ NB302_323.out _; (with_reducible repeat (first | refine blk_drewN ?_ _ | refine blk_drew ?_ | refine blk_alloc ?_ _)); exact BK302.out) hb); replace BK316 := Aside0.mk (blk_below (g := gb316) (o := .cells #[.slice Ao30 t310.length co30, .slice Ao33 t313.length co33] 26 (0, 0)) (by (with_reducible repeat (first | refine blk_drewN ?_ _ | refine blk_drew ?_ | refine blk_alloc ?_ _)); refine blk_far ?_ NB316_323.out _; (with_reducible repeat (first | refine blk_drewN ?_ _ | refine blk_drew ?_ | refine blk_alloc ?_ _)); refine blk_far ?_ NB316_323.out _; (with_reducible repeat (first | refine blk_drewN ?_ _ | refine blk_drew ?_ | refine blk_alloc ?_ _)); exact BK316.out) hb); replace BK323 := Aside0.mk (blk_below (g := gb323) (o := .cells #[.slice Ao37 t317.length co37, .slice Ao41 t320.length co41] 26 (0, 0)) (by (with_reducible repeat (first | refine blk_drewN ?_ _ | refine blk_drew ?_ | refine blk_alloc ?_ _)); refine blk_put (cs := #[.slice Ao37 t317.length co37, .slice none 0 0]) ?_ 1 _ rfl; (with_reducible repeat (first | refine blk_drewN ?_ _ | refine blk_drew ?_ | refine blk_alloc ?_ _)); refine blk_put (cs := #[.slice none 0 0, .slice none 0 0]) ?_ 0 _ rfl; (with_reducible repeat (first | refine blk_drewN ?_ _ | refine blk_drew ?_ | refine blk_alloc ?_ _)); exact BK323.out) hb); replace HB := Aside0.mk (below_step (HBu HB.out) hb); (try clear hb); (try clear hb2); (try clear hk); (try clear hi); (try clear ho0); (try clear ho1)) | ((with_reducible refine gate_dst (N := 12) rfl ?_); refine box_event ?hg (N := 12) ?hd (cs := #[.slice none 0 0, .slice none 0 0]) (t := 26) ?hr ?_; (case hd => rfl); (case hg => rfl); (case hr => first | (go_simp; done) | (go_simp; rfl)); intro gb330 hg w43 hbox hb; have BK330 := Aside0.mk (hbox); have GW330 := Aside0.mk ((by rw [hg]; exact (below_size (HBu HB.out)) : w.heap.size ≤ gb330)); have GE330 := Aside0.mk ((by rw [hg]; exact (below_size (HBu HB.out)) : w.heap.size ≤ gb330)); have NB302_330 := Aside0.mk ((by rw [hg]; exact Nat.ne_of_lt (blk_lt (g := gb302) (o := .cells #[.slice A0_0 l0_0.length c0_0, .slice A0_1 l0_1.length c0_1] 24 (0, 0)) (Bu BK302.out)) : gb302 ≠ gb330)); have NB330_302 := Aside0.mk ((by rw [hg]; exact Nat.ne_of_gt (blk_lt (g := gb302) (o := .cells #[.slice A0_0 l0_0.length c0_0, .slice A0_1 l0_1.length c0_1] 24 (0, 0)) (Bu BK302.out)) : gb330 ≠ gb302)); have NB316_330 := Aside0.mk ((by rw [hg]; exact Nat.ne_of_lt (blk_lt (g := gb316) (o := .cells #[.slice Ao30 t310.length co30, .slice Ao33 t313.length co33] 26 (0, 0)) (Bu BK316.out)) : gb316 ≠ gb330)); have NB330_316 := Aside0.mk ((by rw [hg]; exact Nat.ne_of_gt (blk_lt (g := gb316) (o := .cells #[.slice Ao30 t310.length co30, .slice Ao33 t313.length co33] 26 (0, 0)) (Bu BK316.out)) : gb330 ≠ gb316)); have NB323_330 := Aside0.mk ((by rw [hg]; exact Nat.ne_of_lt (blk_lt (g := gb323) (o := .cells #[.slice Ao37 t317.length co37, .slice Ao41 t320.length co41] 26 (0, 0)) (Bu BK323.out)) : gb323 ≠ gb330)); have NB330_323 := Aside0.mk ((by rw [hg]; exact Nat.ne_of_gt (blk_lt (g := gb323) (o := .cells #[.slice Ao37 t317.length co37, .slice Ao41 t320.length co41] 26 (0, 0)) (Bu BK323.out)) : gb330 ≠ gb323)); replace HO306 := Aside0.mk (Rb HO306.out hb); replace HO309 := Aside0.mk (Rb HO309.out hb); replace HO312 := Aside0.mk (Rb HO312.out hb); replace HO315 := Aside0.mk (Rb HO315.out hb); replace HO319 := Aside0.mk (Rb HO319.out hb); replace HO322 := Aside0.mk (Rb HO322.out hb); replace HO326 := Aside0.mk (Rb HO326.out hb); replace HO329 := Aside0.mk (Rb HO329.out hb); replace BK302 := Aside0.mk (Bb BK302.out hb); replace BK316 := Aside0.mk (Bb BK316.out hb); replace BK323 := Aside0.mk (Bb BK323.out hb); replace HB := Aside0.mk (below_step (HBu HB.out) hb); clear hb hbox hg; obtain ⟨Ao44, co44, eo44⟩ := Kd.R_slice HO326.out; subst eo44; have hnb45 := NB330_302.out; have hnc45 := NB302_330.out; have hnb46 := NB330_316.out; have hnc46 := NB316_330.out; have hnb47 := NB330_323.out; have hnc47 := NB323_330.out; have hcz48_0 : w43.cell? ⟨gb330, 0, none⟩ = some (.slice none 0 0) := (blk_cell BK330.out 0).trans rfl; have hcz48_1 : w43.cell? ⟨gb330, 1, none⟩ = some (.slice none 0 0) := (blk_cell BK330.out 1).trans rfl; have hfz48_0 := blk_frozen BK330.out 0; have hfz48_1 := blk_frozen BK330.out 1; obtain ⟨Ao49, co49, eo49⟩ := Kd.R_slice HO329.out; subst eo49; have hcz50_0 : w43.cell? ⟨gb316, 0, none⟩ = some (.slice Ao30 t310.length co30) := (blk_cell BK316.out 0).trans rfl; have hcz50_1 : w43.cell? ⟨gb316, 1, none⟩ = some (.slice Ao33 t313.length co33) := (blk_cell BK316.out 1).trans rfl; have hfz50_0 := blk_frozen BK316.out 0; have hfz50_1 := blk_frozen BK316.out 1) | ((with_reducible refine gate_callee (f := 13) rfl ?_); refine goesL_ (some 37) rfl rfl Try.func13 (by kernel_rfl) rfl #[.agg #[.slice Ao44 t324.length co44, .slice Ao49 t327.length co49], .agg #[.slice Ao30 t310.length co30, .slice Ao33 t313.length co33]] rfl (by (try simp only [List.map_toArray, List.map_cons, List.map_nil]); first | done | rfl | (simp only [List.length_drop, List.length_take]; rfl)) ?_; (with_reducible refine (laws_eqTensor.calls k _ _ t324 _ _ t327 _ _ t310 _ _ t313 true _ ?side1 ?side2 ?side3 ?side4 ?side5 ?side6 ?side7 ?side8 A14.out).mono ?_); (case side1 => refine (Kd.R_reads' (e := 3) (base := w.heap.size) (ok := fun k_ => ((((((some k_ ≠ (.slice Ao49 t327.length co49 : Value).ownBlock ∧ some k_ ≠ (.slice Ao26 t304.length co26 : Value).ownBlock) ∧ some k_ ≠ (.slice Ao27 t307.length co27 : Value).ownBlock) ∧ some k_ ≠ (.slice Ao30 t310.length co30 : Value).ownBlock) ∧ some k_ ≠ (.slice Ao33 t313.length co33 : Value).ownBlock) ∧ some k_ ≠ (.slice Ao37 t317.length co37 : Value).ownBlock) ∧ some k_ ≠ (.slice Ao41 t320.length co41 : Value).ownBlock)) (n := t324.length) (c := co44) ?_).2.2; exact (Ru (Rf2 HO326.out BK330.out (by decide) (.slice Ao44 t324.length co44) (.slice Ao49 t327.length co49)))); (case side2 => exact (Kd.R_reads' HO326.out).2.1); (case side3 => refine (Kd.R_reads' (e := 3) (base := w.heap.size) (ok := fun k_ => ((((((some k_ ≠ (.slice Ao44 t324.length co44 : Value).ownBlock ∧ some k_ ≠ (.slice Ao26 t304.length co26 : Value).ownBlock) ∧ some k_ ≠ (.slice Ao27 t307.length co27 : Value).ownBlock) ∧ some k_ ≠ (.slice Ao30 t310.length co30 : Value).ownBlock) ∧ some k_ ≠ (.slice Ao33 t313.length co33 : Value).ownBlock) ∧ some k_ ≠ (.slice Ao37 t317.length co37 : Value).ownBlock) ∧ some k_ ≠ (.slice Ao41 t320.length co41 : Value).ownBlock)) (n := t327.length) (c := co49) ?_).2.2; exact (Ru (Rf2 HO329.out BK330.out (by decide) (.slice Ao44 t324.length co44) (.slice Ao49 t327.length co49)))); (case side4 => exact (Kd.R_reads' HO329.out).2.1); (case side5 => refine (Kd.R_reads' (e := 3) (base := w.heap.size) (ok := fun k_ => ((((((some k_ ≠ (.slice Ao33 t313.length co33 : Value).ownBlock ∧ some k_ ≠ (.slice Ao26 t304.length co26 : Value).ownBlock) ∧ some k_ ≠ (.slice Ao27 t307.length co27 : Value).ownBlock) ∧ some k_ ≠ (.slice Ao37 t317.length co37 : Value).ownBlock) ∧ some k_ ≠ (.slice Ao41 t320.length co41 : Value).ownBlock) ∧ some k_ ≠ (.slice Ao44 t324.length co44 : Value).ownBlock) ∧ some k_ ≠ (.slice Ao49 t327.length co49 : Value).ownBlock)) (n := t310.length) (c := co30) ?_).2.2; exact (Ru (Rf2 HO312.out BK330.out (by decide) (.slice Ao44 t324.length co44) (.slice Ao49 t327.length co49)))); (case side6 => exact (Kd.R_reads' HO312.out).2.1); (case side7 => refine (Kd.R_reads' (e := 3) (base := w.heap.size) (ok := fun k_ => ((((((some k_ ≠ (.slice Ao30 t310.length co30 : Value).ownBlock ∧ some k_ ≠ (.slice Ao26 t304.length co26 : Value).ownBlock) ∧ some k_ ≠ (.slice Ao27 t307.length co27 : Value).ownBlock) ∧ some k_ ≠ (.slice Ao37 t317.length co37 : Value).ownBlock) ∧ some k_ ≠ (.slice Ao41 t320.length co41 : Value).ownBlock) ∧ some k_ ≠ (.slice Ao44 t324.length co44 : Value).ownBlock) ∧ some k_ ≠ (.slice Ao49 t327.length co49 : Value).ownBlock)) (n := t313.length) (c := co33) ?_).2.2; exact (Ru (Rf2 HO315.out BK330.out (by decide) (.slice Ao44 t324.length co44) (.slice Ao49 t327.length co49)))); (case side8 => exact (Kd.R_reads' HO315.out).2.1); rintro e w51 ⟨rfl, hb⟩; refine ⟨_, rfl, ?_⟩; replace HO306 := Aside0.mk (Kd.R_below (Ru (Rf2 HO306.out BK330.out (by decide) (.slice Ao44 t324.length co44) (.slice Ao49 t327.length co49))) hb); replace HO309 := Aside0.mk (Kd.R_below (Ru (Rf2 HO309.out BK330.out (by decide) (.slice Ao44 t324.length co44) (.slice Ao49 t327.length co49))) hb); replace HO312 := Aside0.mk (Kd.R_below (Ru (Rf2 HO312.out BK330.out (by decide) (.slice Ao44 t324.length co44) (.slice Ao49 t327.length co49))) hb); replace HO315 := Aside0.mk (Kd.R_below (Ru (Rf2 HO315.out BK330.out (by decide) (.slice Ao44 t324.length co44) (.slice Ao49 t327.length co49))) hb); replace HO319 := Aside0.mk (Kd.R_below (Ru (Rf2 HO319.out BK330.out (by decide) (.slice Ao44 t324.length co44) (.slice Ao49 t327.length co49))) hb); replace HO322 := Aside0.mk (Kd.R_below (Ru (Rf2 HO322.out BK330.out (by decide) (.slice Ao44 t324.length co44) (.slice Ao49 t327.length co49))) hb); replace HO326 := Aside0.mk (Kd.R_below (Ru (Rf2 HO326.out BK330.out (by decide) (.slice Ao44 t324.length co44) (.slice Ao49 t327.length co49))) hb); replace HO329 := Aside0.mk (Kd.R_below (Ru (Rf2 HO329.out BK330.out (by decide) (.slice Ao44 t324.length co44) (.slice Ao49 t327.length co49))) hb); replace BK302 := Aside0.mk (blk_below (g := gb302) (o := .cells #[.slice A0_0 l0_0.length c0_0, .slice A0_1 l0_1.length c0_1] 24 (0, 0)) (by (with_reducible repeat (first | refine blk_drewN ?_ _ | refine blk_drew ?_ | refine blk_alloc ?_ _)); refine blk_far ?_ NB302_330.out _; (with_reducible repeat (first | refine blk_drewN ?_ _ | refine blk_drew ?_ | refine blk_alloc ?_ _)); refine blk_far ?_ NB302_330.out _; (with_reducible repeat (first | refine blk_drewN ?_ _ | refine blk_drew ?_ | refine blk_alloc ?_ _)); exact BK302.out) hb); replace BK316 := Aside0.mk (blk_below (g := gb316) (o := .cells #[.slice Ao30 t310.length co30, .slice Ao33 t313.length co33] 26 (0, 0)) (by (with_reducible repeat (first | refine blk_drewN ?_ _ | refine blk_drew ?_ | refine blk_alloc ?_ _)); refine blk_far ?_ NB316_330.out _; (with_reducible repeat (first | refine blk_drewN ?_ _ | refine blk_drew ?_ | refine blk_alloc ?_ _)); refine blk_far ?_ NB316_330.out _; (with_reducible repeat (first | refine blk_drewN ?_ _ | refine blk_drew ?_ | refine blk_alloc ?_ _)); exact BK316.out) hb); replace BK323 := Aside0.mk (blk_below (g := gb323) (o := .cells #[.slice Ao37 t317.length co37, .slice Ao41 t320.length co41] 26 (0, 0)) (by (with_reducible repeat (first | refine blk_drewN ?_ _ | refine blk_drew ?_ | refine blk_alloc ?_ _)); refine blk_far ?_ NB323_330.out _; (with_reducible repeat (first | refine blk_drewN ?_ _ | refine blk_drew ?_ | refine blk_alloc ?_ _)); refine blk_far ?_ NB323_330.out _; (with_reducible repeat (first | refine blk_drewN ?_ _ | refine blk_drew ?_ | refine blk_alloc ?_ _)); exact BK323.out) hb); replace BK330 := Aside0.mk (blk_below (g := gb330) (o := .cells #[.slice Ao44 t324.length co44, .slice Ao49 t327.length co49] 26 (0, 0)) (by (with_reducible repeat (first | refine blk_drewN ?_ _ | refine blk_drew ?_ | refine blk_alloc ?_ _)); refine blk_put (cs := #[.slice Ao44 t324.length co44, .slice none 0 0]) ?_ 1 _ rfl; (with_reducible repeat (first | refine blk_drewN ?_ _ | refine blk_drew ?_ | refine blk_alloc ?_ _)); refine blk_put (cs := #[.slice none 0 0, .slice none 0 0]) ?_ 0 _ rfl; (with_reducible repeat (first | refine blk_drewN ?_ _ | refine blk_drew ?_ | refine blk_alloc ?_ _)); exact BK330.out) hb); replace HB := Aside0.mk (below_step (HBu HB.out) hb); (try clear hb); (try clear hb2); (try clear hk); (try clear hi)))
    replace HO312 := Aside0.mk (Kd.R_drew HO312.out)
    replace HO315 := Aside0.mk (Kd.R_drew HO315.out)
    replace HO319 := Aside0.mk (Kd.R_drew HO319.out)
    replace HO322 := Aside0.mk (Kd.R_drew HO322.out)
    replace HO326 := Aside0.mk (Kd.R_drew HO326.out)
    replace HO329 := Aside0.mk (Kd.R_drew HO329.out)
    replace BK302 := Aside0.mk (blk_drew BK302.out)
    replace BK316 := Aside0.mk (blk_drew BK316.out)
    replace BK323 := Aside0.mk (blk_drew BK323.out)
    replace BK330 := Aside0.mk (blk_drew BK330.out)
    replace HB := Aside0.mk (below_drew1 HB.out)
    refine start_ (n := 5) (S := fun w' => w'.cell? ⟨gb323, 0, none⟩ = some (.slice Ao37 t317.length co37) ∧ w'.cell? ⟨gb323, 1, none⟩ = some (.slice Ao41 t320.length co41) ∧ w'.cell? ⟨gb302, 0, none⟩ = some (.slice A0_0 l0_0.length c0_0) ∧ w'.cell? ⟨gb302, 1, none⟩ = some (.slice A0_1 l0_1.length c0_1)) (ds := []) #[false, false, false, false, false] (by kernel_rfl) rfl rfl ⟨(blk_cell BK323.out 0).trans rfl, (blk_cell BK323.out 1).trans rfl, (blk_cell BK302.out 0).trans rfl, (blk_cell BK302.out 1).trans rfl⟩ (fun hHeld => ?_)
    generalize w51.drew = w52 at HO312 HO315 HO319 HO322 HO326 HO329 BK302 BK316 BK323 BK330 HB hHeld ⊢
    refine take_ (i := 0) (N := some 39) (v := ?_) (a' := ?_) #[true, false, false, false, false] rfl rfl (by kernel_rfl) (fun _ _ _ h => h) (Or.inl ⟨by rfl, ?_⟩) hHeld ?_ ?_
    rotate_left
    ·rintro w' ⟨s0, s1, s2, s3⟩
     go_simp
     with_reducible rfl
    rotate_left
    ·simp only [Act.put, List.setIfInBounds_toArray, List.set_cons_zero, List.set_cons_succ, i64_w, i32_w]
     rfl
    refine take_ (i := 1) (N := some 40) (v := ?_) (a' := ?_) #[true, true, false, false, false] rfl rfl (by kernel_rfl) (fun _ _ _ h => h) (Or.inl ⟨by rfl, ?_⟩) hHeld ?_ ?_
    rotate_left
    ·rintro w' ⟨s0, s1, s2, s3⟩
     go_simp
     with_reducible rfl
    rotate_left
    ·simp only [Act.put, List.setIfInBounds_toArray, List.set_cons_zero, List.set_cons_succ, i64_w, i32_w]
     rfl
    refine one_ (i := 2) (N := some 41) #[true, true, true, false, false] rfl rfl (by kernel_rfl) (by decide) (fun K hK => ?_)
    refine goes_ Try.func11 (by kernel_rfl) rfl #[.agg #[.slice A0_0 l0_0.length c0_0, .slice A0_1 l0_1.length c0_1]] (by rfl) rfl rfl (by (try simp only [List.map_toArray, List.map_cons, List.map_nil]); first | done | rfl | (simp only [List.length_drop, List.length_take]; rfl)) ?_
    with_reducible refine (laws_toTensor.calls k _ _ l0_0 _ _ l0_1 t332 t335 _ ?side1 ?side2 ?side3 ?side4 A16.out).mono ?_
    (case side1 => exact (Cu ((Kd.C_below HR0_0.out HB.out))))
    (case side2 => exact HC0_0.out)
    (case side3 => exact (Cu ((Kd.C_below HR0_1.out HB.out))))
    (case side4 => exact HC0_1.out)
    rintro e w53 ⟨v333, v336, rfl, ho0, ho1, hb⟩
    refine ⟨_, rfl, ?_⟩
    have HO334 := Aside0.mk (Kd.R_lower (Kd.R_new' (Kd.R_new' (Kd.R_new' (Kd.R_new' (Kd.R_new' (Kd.R_new' ho0 (Kd.R_lt (Ru HO312.out))) (Kd.R_lt (Ru HO315.out))) (Kd.R_lt (Ru HO319.out))) (Kd.R_lt (Ru HO322.out))) (Kd.R_lt (Ru HO326.out))) (Kd.R_lt (Ru HO329.out))) (below_size (HBu HB.out)))
    have HO337 := Aside0.mk (Kd.R_lower (Kd.R_new' (Kd.R_new' (Kd.R_new' (Kd.R_new' (Kd.R_new' (Kd.R_new' ho1 (Kd.R_lt (Ru HO312.out))) (Kd.R_lt (Ru HO315.out))) (Kd.R_lt (Ru HO319.out))) (Kd.R_lt (Ru HO322.out))) (Kd.R_lt (Ru HO326.out))) (Kd.R_lt (Ru HO329.out))) (below_size (HBu HB.out)))
    replace HO312 := Aside0.mk (Rt2 HO312.out hb ho0 ho1)
    replace HO315 := Aside0.mk (Rt2 HO315.out hb ho0 ho1)
    replace HO319 := Aside0.mk (Rt2 HO319.out hb ho0 ho1)
    replace HO322 := Aside0.mk (Rt2 HO322.out hb ho0 ho1)
    replace HO326 := Aside0.mk (Rt2 HO326.out hb ho0 ho1)
    replace HO329 := Aside0.mk (Rt2 HO329.out hb ho0 ho1)
    replace BK302 := Aside0.mk (Bb BK302.out hb)
    replace BK316 := Aside0.mk (Bb BK316.out hb)
    replace BK323 := Aside0.mk (Bb BK323.out hb)
    replace BK330 := Aside0.mk (Bb BK330.out hb)
    replace HB := Aside0.mk (below_step (HBu HB.out) hb)
    (try clear hb)
    (try clear hb2)
    (try clear hk)
    (try clear hi)
    (try clear ho0)
    (try clear ho1)
    obtain ⟨Ao54, co54, eo54⟩ := Kd.R_slice HO334.out
    (first | subst eo54 | (injection eo54 with f1_ f2_ f3_; have f4_ := f1_.symm; have f5_ := f3_.symm; clear f1_ f2_ f3_; subst f4_; subst f5_))
    obtain ⟨Ao55, co55, eo55⟩ := Kd.R_slice HO337.out
    (first | subst eo55 | (injection eo55 with f1_ f2_ f3_; have f4_ := f1_.symm; have f5_ := f3_.symm; clear f1_ f2_ f3_; subst f4_; subst f5_))
    refine hK.out _ _ ⟨(blk_cell BK323.out 0).trans rfl, (blk_cell BK323.out 1).trans rfl, (blk_cell BK302.out 0).trans rfl, (blk_cell BK302.out 1).trans rfl⟩ (fun hHeld => ?_)
    clear hK K
    refine norm_ (a' := ?_) ?_ ?_
    rotate_left
    ·show Act.put _ (some 41) _ = _
     simp only [Act.put, List.setIfInBounds_toArray, List.set_cons_zero, List.set_cons_succ, i64_w, i32_w]
     rfl
    refine one_ (i := 3) (N := some 42) #[true, true, true, true, false] rfl rfl (by kernel_rfl) (by decide) (fun K hK => ?_)
    refine goes_ Try.func13 (by kernel_rfl) rfl #[.agg #[.slice Ao37 t317.length co37, .slice Ao41 t320.length co41], .agg #[.slice Ao54 t332.length co54, .slice Ao55 t335.length co55]] (by rfl) rfl rfl (by (try simp only [List.map_toArray, List.map_cons, List.map_nil]); first | done | rfl | (simp only [List.length_drop, List.length_take]; rfl)) ?_
    with_reducible refine (laws_eqTensor.calls k _ _ t317 _ _ t320 _ _ t332 _ _ t335 true _ ?side1 ?side2 ?side3 ?side4 ?side5 ?side6 ?side7 ?side8 A17.out).mono ?_
    (case side1 => exact (Cu ((Kd.R_reads' HO319.out).2.2)))
    (case side2 => exact (Kd.R_reads' HO319.out).2.1)
    (case side3 => exact (Cu ((Kd.R_reads' HO322.out).2.2)))
    (case side4 => exact (Kd.R_reads' HO322.out).2.1)
    (case side5 => exact (Cu ((Kd.R_reads' HO334.out).2.2)))
    (case side6 => exact (Kd.R_reads' HO334.out).2.1)
    (case side7 => exact (Cu ((Kd.R_reads' HO337.out).2.2)))
    (case side8 => exact (Kd.R_reads' HO337.out).2.1)
    rintro e w56 ⟨rfl, hb⟩
    refine ⟨_, rfl, ?_⟩
    replace HO312 := Aside0.mk (Rb HO312.out hb)
    replace HO315 := Aside0.mk (Rb HO315.out hb)
    replace HO319 := Aside0.mk (Rb HO319.out hb)
    replace HO322 := Aside0.mk (Rb HO322.out hb)
    replace HO326 := Aside0.mk (Rb HO326.out hb)
    replace HO329 := Aside0.mk (Rb HO329.out hb)
    replace HO334 := Aside0.mk (Rb HO334.out hb)
    replace HO337 := Aside0.mk (Rb HO337.out hb)
    replace BK302 := Aside0.mk (Bb BK302.out hb)
    replace BK316 := Aside0.mk (Bb BK316.out hb)
    replace BK323 := Aside0.mk (Bb BK323.out hb)
    replace BK330 := Aside0.mk (Bb BK330.out hb)
    replace HB := Aside0.mk (below_step (HBu HB.out) hb)
    (try clear hb)
    (try clear hb2)
    (try clear hk)
    (try clear hi)
    refine hK.out _ _ ⟨(blk_cell BK323.out 0).trans rfl, (blk_cell BK323.out 1).trans rfl, (blk_cell BK302.out 0).trans rfl, (blk_cell BK302.out 1).trans rfl⟩ (fun hHeld => ?_)
    clear hK K
    refine norm_ (a' := ?_) ?_ ?_
    rotate_left
    ·show Act.put _ (some 42) _ = _
     simp only [Act.put, List.setIfInBounds_toArray, List.set_cons_zero, List.set_cons_succ, i64_w, i32_w]
     rfl
    refine pure_ (i := 4) (N := some 43) (v := ?_) (a' := ?_) #[true, true, true, true, true] rfl rfl (by kernel_rfl) (fun _ _ _ h => h) (Or.inl ⟨by rfl, ?_⟩) ?_ ?_
    rotate_left
    ·intro w'
     go_simp
     with_reducible rfl
    rotate_left
    ·simp only [Act.put, List.setIfInBounds_toArray, List.set_cons_zero, List.set_cons_succ, i64_w, i32_w]
     rfl
    refine done_ (by kernel_rfl) ?_
    have hcz57_0 : w56.cell? ⟨gb323, 0, none⟩ = some (.slice Ao37 t317.length co37) := (blk_cell BK323.out 0).trans rfl
    have hcz57_1 : w56.cell? ⟨gb323, 1, none⟩ = some (.slice Ao41 t320.length co41) := (blk_cell BK323.out 1).trans rfl
    have hfz57_0 := blk_frozen BK323.out 0
    have hfz57_1 := blk_frozen BK323.out 1
    go_upto_region 14 with (first | ((with_reducible refine gate_callee (f := 14) rfl ?_); refine goesL_ (some 46) rfl rfl Try.func14 (by kernel_rfl) rfl #[.agg #[.slice Ao37 t317.length co37, .slice Ao41 t320.length co41], .int .i64 1] rfl (by (try simp only [List.map_toArray, List.map_cons, List.map_nil]); first | done | rfl | (simp only [List.length_drop, List.length_take]; rfl)) ?_; (with_reducible refine (laws_markTensor.calls k (fun k_ => some k_ = (.slice Ao37 t317.length co37 : Value).ownBlock) (.slice Ao37 t317.length co37) t317 (fun k_ => some k_ = (.slice Ao41 t320.length co41 : Value).ownBlock) (.slice Ao41 t320.length co41) t320 1 t339 t340 t341 w _ ?side1 ?side2 ?side3 ?side4 ?side5 A19.out).mono ?_); (case side1 => exact HBu HB.out); (case side2 => exact Kd.R_tight rfl HO319.out); (case side3 => exact fun k_ e_ => (HO319.out.1 k_ e_.symm).1.1.1.1.1.1.1.1); (case side4 => exact Kd.R_tight rfl HO322.out); (case side5 => exact fun k_ e_ => (HO322.out.1 k_ e_.symm).1.1.1.1.1.1.1.1); rintro e w58 ⟨rfl, hy0, hy1, hb, hkp⟩; refine ⟨_, rfl, ?_⟩; replace BK302 := Aside0.mk (blk_kept (by first | exact BK302.out | ((with_reducible repeat (first | refine blk_drewN ?_ _ | refine blk_drew ?_ | refine blk_alloc ?_ _)); exact BK302.out)) hkp (fun hs_ => Or.elim hs_ (fun e_ => (fun e_ => (Kd.R_ne HO319.out BK302.out (by decide)) e_) e_) (fun e_ => (fun e_ => (Kd.R_ne HO322.out BK302.out (by decide)) e_) e_))); replace HO312 := Aside0.mk (Kd.R_mono (ok' := fun k_ => some k_ ≠ (.slice Ao33 t313.length co33 : Value).ownBlock ∧ some k_ ≠ (.slice Ao37 t317.length co37 : Value).ownBlock ∧ some k_ ≠ (.slice Ao41 t320.length co41 : Value).ownBlock ∧ some k_ ≠ (.slice Ao44 t324.length co44 : Value).ownBlock ∧ some k_ ≠ (.slice Ao49 t327.length co49 : Value).ownBlock ∧ some k_ ≠ (.slice Ao54 t332.length co54 : Value).ownBlock ∧ some k_ ≠ (.slice Ao55 t335.length co55 : Value).ownBlock) (Kd.R_keptB (HO312.out) hkp (fun k_ hk_ hs_ => Or.elim hs_ (fun e_ => (hk_.1.1.1.1.1.2) e_) (fun e_ => (hk_.1.1.1.1.2) e_))) (fun k_ hk_ => ⟨hk_.1.1.1.1.1.1.1.1.1, hk_.1.1.1.1.1.1.2, hk_.1.1.1.1.1.2, hk_.1.1.1.1.2, hk_.1.1.1.2, hk_.1.1.2, hk_.1.2⟩)); replace HO315 := Aside0.mk (Kd.R_mono (ok' := fun k_ => some k_ ≠ (.slice Ao30 t310.length co30 : Value).ownBlock ∧ some k_ ≠ (.slice Ao37 t317.length co37 : Value).ownBlock ∧ some k_ ≠ (.slice Ao41 t320.length co41 : Value).ownBlock ∧ some k_ ≠ (.slice Ao44 t324.length co44 : Value).ownBlock ∧ some k_ ≠ (.slice Ao49 t327.length co49 : Value).ownBlock ∧ some k_ ≠ (.slice Ao54 t332.length co54 : Value).ownBlock ∧ some k_ ≠ (.slice Ao55 t335.length co55 : Value).ownBlock) (Kd.R_keptB (HO315.out) hkp (fun k_ hk_ hs_ => Or.elim hs_ (fun e_ => (hk_.1.1.1.1.1.2) e_) (fun e_ => (hk_.1.1.1.1.2) e_))) (fun k_ hk_ => ⟨hk_.1.1.1.1.1.1.1.1.1, hk_.1.1.1.1.1.1.2, hk_.1.1.1.1.1.2, hk_.1.1.1.1.2, hk_.1.1.1.2, hk_.1.1.2, hk_.1.2⟩)); replace BK316 := Aside0.mk (blk_kept (by first | exact BK316.out | ((with_reducible repeat (first | refine blk_drewN ?_ _ | refine blk_drew ?_ | refine blk_alloc ?_ _)); exact BK316.out)) hkp (fun hs_ => Or.elim hs_ (fun e_ => (fun e_ => (Kd.R_ne HO319.out BK316.out (by decide)) e_) e_) (fun e_ => (fun e_ => (Kd.R_ne HO322.out BK316.out (by decide)) e_) e_))); replace BK323 := Aside0.mk (blk_kept (by first | exact BK323.out | ((with_reducible repeat (first | refine blk_drewN ?_ _ | refine blk_drew ?_ | refine blk_alloc ?_ _)); exact BK323.out)) hkp (fun hs_ => Or.elim hs_ (fun e_ => (fun e_ => (Kd.R_ne HO319.out BK323.out (by decide)) e_) e_) (fun e_ => (fun e_ => (Kd.R_ne HO322.out BK323.out (by decide)) e_) e_))); replace HO326 := Aside0.mk (Kd.R_mono (ok' := fun k_ => some k_ ≠ (.slice Ao30 t310.length co30 : Value).ownBlock ∧ some k_ ≠ (.slice Ao33 t313.length co33 : Value).ownBlock ∧ some k_ ≠ (.slice Ao37 t317.length co37 : Value).ownBlock ∧ some k_ ≠ (.slice Ao41 t320.length co41 : Value).ownBlock ∧ some k_ ≠ (.slice Ao49 t327.length co49 : Value).ownBlock ∧ some k_ ≠ (.slice Ao54 t332.length co54 : Value).ownBlock ∧ some k_ ≠ (.slice Ao55 t335.length co55 : Value).ownBlock) (Kd.R_keptB (HO326.out) hkp (fun k_ hk_ hs_ => Or.elim hs_ (fun e_ => (hk_.1.1.1.2) e_) (fun e_ => (hk_.1.1.2) e_))) (fun k_ hk_ => ⟨hk_.1.1.1.1.1.1.2, hk_.1.1.1.1.1.2, hk_.1.1.1.1.2, hk_.1.1.1.2, hk_.1.1.1.1.1.1.1.1.1, hk_.1.1.2, hk_.1.2⟩)); replace HO329 := Aside0.mk (Kd.R_mono (ok' := fun k_ => some k_ ≠ (.slice Ao30 t310.length co30 : Value).ownBlock ∧ some k_ ≠ (.slice Ao33 t313.length co33 : Value).ownBlock ∧ some k_ ≠ (.slice Ao37 t317.length co37 : Value).ownBlock ∧ some k_ ≠ (.slice Ao41 t320.length co41 : Value).ownBlock ∧ some k_ ≠ (.slice Ao44 t324.length co44 : Value).ownBlock ∧ some k_ ≠ (.slice Ao54 t332.length co54 : Value).ownBlock ∧ some k_ ≠ (.slice Ao55 t335.length co55 : Value).ownBlock) (Kd.R_keptB (HO329.out) hkp (fun k_ hk_ hs_ => Or.elim hs_ (fun e_ => (hk_.1.1.1.2) e_) (fun e_ => (hk_.1.1.2) e_))) (fun k_ hk_ => ⟨hk_.1.1.1.1.1.1.2, hk_.1.1.1.1.1.2, hk_.1.1.1.1.2, hk_.1.1.1.2, hk_.1.1.1.1.1.1.1.1.1, hk_.1.1.2, hk_.1.2⟩)); replace BK330 := Aside0.mk (blk_kept (by first | exact BK330.out | ((with_reducible repeat (first | refine blk_drewN ?_ _ | refine blk_drew ?_ | refine blk_alloc ?_ _)); exact BK330.out)) hkp (fun hs_ => Or.elim hs_ (fun e_ => (fun e_ => (Kd.R_ne HO319.out BK330.out (by decide)) e_) e_) (fun e_ => (fun e_ => (Kd.R_ne HO322.out BK330.out (by decide)) e_) e_))); replace HO319 := Aside0.mk (Kd.R_reok rfl hy0 (fun k_ e_ => HO319.out.1 k_ e_)); replace HO322 := Aside0.mk (Kd.R_reok rfl hy1 (fun k_ e_ => HO322.out.1 k_ e_)); replace HO334 := Aside0.mk (Kd.R_mono (ok' := fun k_ => some k_ ≠ (.slice Ao30 t310.length co30 : Value).ownBlock ∧ some k_ ≠ (.slice Ao33 t313.length co33 : Value).ownBlock ∧ some k_ ≠ (.slice Ao37 t317.length co37 : Value).ownBlock ∧ some k_ ≠ (.slice Ao41 t320.length co41 : Value).ownBlock ∧ some k_ ≠ (.slice Ao44 t324.length co44 : Value).ownBlock ∧ some k_ ≠ (.slice Ao49 t327.length co49 : Value).ownBlock ∧ some k_ ≠ (.slice Ao55 t335.length co55 : Value).ownBlock) (Kd.R_keptB (HO334.out) hkp (fun k_ hk_ hs_ => Or.elim hs_ (fun e_ => (hk_.1.1.1.2) e_) (fun e_ => (hk_.1.1.2) e_))) (fun k_ hk_ => ⟨hk_.1.1.1.1.1.1.2, hk_.1.1.1.1.1.2, hk_.1.1.1.1.2, hk_.1.1.1.2, hk_.1.1.2, hk_.1.2, hk_.1.1.1.1.1.1.1⟩)); replace HO337 := Aside0.mk (Kd.R_mono (ok' := fun k_ => some k_ ≠ (.slice Ao30 t310.length co30 : Value).ownBlock ∧ some k_ ≠ (.slice Ao33 t313.length co33 : Value).ownBlock ∧ some k_ ≠ (.slice Ao37 t317.length co37 : Value).ownBlock ∧ some k_ ≠ (.slice Ao41 t320.length co41 : Value).ownBlock ∧ some k_ ≠ (.slice Ao44 t324.length co44 : Value).ownBlock ∧ some k_ ≠ (.slice Ao49 t327.length co49 : Value).ownBlock ∧ some k_ ≠ (.slice Ao54 t332.length co54 : Value).ownBlock) (Kd.R_keptB (HO337.out) hkp (fun k_ hk_ hs_ => Or.elim hs_ (fun e_ => (hk_.1.1.1.2) e_) (fun e_ => (hk_.1.1.2) e_))) (fun k_ hk_ => ⟨hk_.1.1.1.1.1.1.2, hk_.1.1.1.1.1.2, hk_.1.1.1.1.2, hk_.1.1.1.2, hk_.1.1.2, hk_.1.2, hk_.1.1.1.1.1.1.1⟩)); replace HB := Aside0.mk (hb); (try clear hb); (try clear hkp); (try clear hy0); (try clear hy1)))
    (try simp only [Act.put, List.setIfInBounds_toArray, List.set_cons_zero, List.set_cons_succ])
    go_cut [54] (fun v54 wc => ∃ (kq : Nat) (x54_19 : Bool), v54 = .bool x54_19 ∧ Aside0 (laws_FnExactFold.j0 kq a1 a2 a3 x54_19 l0_0 l0_1 t310 t313 t324 t327 = some r) ∧ Aside0 (kq ≤ k) ∧ Aside0 (Kd.R (Kd.int .i64) 3 wc w.heap.size (fun k_ => some k_ ≠ ((.slice Ao33 t313.length co33) : Value).ownBlock ∧ some k_ ≠ ((.slice Ao37 t317.length co37) : Value).ownBlock ∧ some k_ ≠ ((.slice Ao41 t320.length co41) : Value).ownBlock ∧ some k_ ≠ ((.slice Ao44 t324.length co44) : Value).ownBlock ∧ some k_ ≠ ((.slice Ao49 t327.length co49) : Value).ownBlock) (.slice Ao30 t310.length co30) t310) ∧ Aside0 (Kd.R (Kd.int .i64) 3 wc w.heap.size (fun k_ => some k_ ≠ ((.slice Ao30 t310.length co30) : Value).ownBlock ∧ some k_ ≠ ((.slice Ao37 t317.length co37) : Value).ownBlock ∧ some k_ ≠ ((.slice Ao41 t320.length co41) : Value).ownBlock ∧ some k_ ≠ ((.slice Ao44 t324.length co44) : Value).ownBlock ∧ some k_ ≠ ((.slice Ao49 t327.length co49) : Value).ownBlock) (.slice Ao33 t313.length co33) t313) ∧ Aside0 (Kd.R (Kd.int .i64) 3 wc w.heap.size (fun k_ => some k_ ≠ ((.slice Ao30 t310.length co30) : Value).ownBlock ∧ some k_ ≠ ((.slice Ao33 t313.length co33) : Value).ownBlock ∧ some k_ ≠ ((.slice Ao41 t320.length co41) : Value).ownBlock ∧ some k_ ≠ ((.slice Ao44 t324.length co44) : Value).ownBlock ∧ some k_ ≠ ((.slice Ao49 t327.length co49) : Value).ownBlock) (.slice Ao37 t317.length co37) t340) ∧ Aside0 (Kd.R (Kd.int .i64) 3 wc w.heap.size (fun k_ => some k_ ≠ ((.slice Ao30 t310.length co30) : Value).ownBlock ∧ some k_ ≠ ((.slice Ao33 t313.length co33) : Value).ownBlock ∧ some k_ ≠ ((.slice Ao37 t317.length co37) : Value).ownBlock ∧ some k_ ≠ ((.slice Ao44 t324.length co44) : Value).ownBlock ∧ some k_ ≠ ((.slice Ao49 t327.length co49) : Value).ownBlock) (.slice Ao41 t320.length co41) t341) ∧ Aside0 (Kd.R (Kd.int .i64) 3 wc w.heap.size (fun k_ => some k_ ≠ ((.slice Ao30 t310.length co30) : Value).ownBlock ∧ some k_ ≠ ((.slice Ao33 t313.length co33) : Value).ownBlock ∧ some k_ ≠ ((.slice Ao37 t317.length co37) : Value).ownBlock ∧ some k_ ≠ ((.slice Ao41 t320.length co41) : Value).ownBlock ∧ some k_ ≠ ((.slice Ao49 t327.length co49) : Value).ownBlock) (.slice Ao44 t324.length co44) t324) ∧ Aside0 (Kd.R (Kd.int .i64) 3 wc w.heap.size (fun k_ => some k_ ≠ ((.slice Ao30 t310.length co30) : Value).ownBlock ∧ some k_ ≠ ((.slice Ao33 t313.length co33) : Value).ownBlock ∧ some k_ ≠ ((.slice Ao37 t317.length co37) : Value).ownBlock ∧ some k_ ≠ ((.slice Ao41 t320.length co41) : Value).ownBlock ∧ some k_ ≠ ((.slice Ao44 t324.length co44) : Value).ownBlock) (.slice Ao49 t327.length co49) t327) ∧ Aside0 (wc.heap[gb302]? = some (.cells #[(.slice A0_0 l0_0.length c0_0), (.slice A0_1 l0_1.length c0_1)] 24 (0, 0))) ∧ Aside0 (wc.heap[gb316]? = some (.cells #[(.slice Ao30 t310.length co30), (.slice Ao33 t313.length co33)] 26 (0, 0))) ∧ Aside0 (wc.heap[gb323]? = some (.cells #[(.slice Ao37 t317.length co37), (.slice Ao41 t320.length co41)] 26 (0, 0))) ∧ Aside0 (wc.heap[gb330]? = some (.cells #[(.slice Ao44 t324.length co44), (.slice Ao49 t327.length co49)] 26 (0, 0))) ∧ Aside0 (Below w.heap.size w wc))
    case first =>
     have H := HC20.out
     clear HC20
     by_cases c59 : t339 < 0
     ·rw [if_pos c59] at H
      have c59b0 : decide (t339 < 0) = true := decide_eq_true c59
      clear c59
      (first | rw [c59b0] | (simp only [i64_w, i32_w]; rw [c59b0]) | skip)
      have H' := Aside0.mk H
      clear H
      go_wp2
      go_meet
      case rel => exact ⟨_, (true), (by first | rfl | (simp; done) | (simp [*]; done)), H', ⟨by first | omega | exact Nat.le_refl _⟩, ⟨by (with_reducible repeat (first | apply Kd.R_alloc | apply Kd.R_drewN | apply Kd.R_drew)); exact Kd.R_mono HO312.out (fun _ hk => ⟨hk.1, ⟨hk.2.1, ⟨hk.2.2.1, ⟨hk.2.2.2.1, hk.2.2.2.2.1⟩⟩⟩⟩)⟩, ⟨by (with_reducible repeat (first | apply Kd.R_alloc | apply Kd.R_drewN | apply Kd.R_drew)); exact Kd.R_mono HO315.out (fun _ hk => ⟨hk.1, ⟨hk.2.1, ⟨hk.2.2.1, ⟨hk.2.2.2.1, hk.2.2.2.2.1⟩⟩⟩⟩)⟩, ⟨by (with_reducible repeat (first | apply Kd.R_alloc | apply Kd.R_drewN | apply Kd.R_drew)); exact Kd.R_mono HO319.out (fun _ hk => ⟨hk.1.1.1.1.1.2, ⟨hk.1.1.1.1.2, ⟨hk.1.1.1.1.1.1.1.1, ⟨hk.1.1.1.2, hk.1.1.2⟩⟩⟩⟩)⟩, ⟨by (with_reducible repeat (first | apply Kd.R_alloc | apply Kd.R_drewN | apply Kd.R_drew)); exact Kd.R_mono HO322.out (fun _ hk => ⟨hk.1.1.1.1.1.2, ⟨hk.1.1.1.1.2, ⟨hk.1.1.1.1.1.1.1.1, ⟨hk.1.1.1.2, hk.1.1.2⟩⟩⟩⟩)⟩, ⟨by (with_reducible repeat (first | apply Kd.R_alloc | apply Kd.R_drewN | apply Kd.R_drew)); exact Kd.R_mono HO326.out (fun _ hk => ⟨hk.1, ⟨hk.2.1, ⟨hk.2.2.1, ⟨hk.2.2.2.1, hk.2.2.2.2.1⟩⟩⟩⟩)⟩, ⟨by (with_reducible repeat (first | apply Kd.R_alloc | apply Kd.R_drewN | apply Kd.R_drew)); exact Kd.R_mono HO329.out (fun _ hk => ⟨hk.1, ⟨hk.2.1, ⟨hk.2.2.1, ⟨hk.2.2.2.1, hk.2.2.2.2.1⟩⟩⟩⟩)⟩, ⟨by (with_reducible repeat (first | refine blk_drewN ?_ _ | refine blk_drew ?_ | refine blk_alloc ?_ _)); exact BK302.out⟩, ⟨by (with_reducible repeat (first | refine blk_drewN ?_ _ | refine blk_drew ?_ | refine blk_alloc ?_ _)); exact BK316.out⟩, ⟨by (with_reducible repeat (first | refine blk_drewN ?_ _ | refine blk_drew ?_ | refine blk_alloc ?_ _)); exact BK323.out⟩, ⟨by (with_reducible repeat (first | refine blk_drewN ?_ _ | refine blk_drew ?_ | refine blk_alloc ?_ _)); exact BK330.out⟩, ⟨HBu HB.out⟩⟩
     ·rw [if_neg c59] at H
      have c59b0 : decide (t339 < 0) = false := decide_eq_false c59
      clear c59
      (first | rw [c59b0] | (simp only [i64_w, i32_w]; rw [c59b0]) | skip)
      replace H := Option.bind_eq_some_iff.mp H
      obtain ⟨t342, A600, H⟩ := H
      replace H : (laws_FnExactFold.j0 k a1 a2 a3 (!t342) l0_0 l0_1 t310 t313 t324 t327) = some r := H
      have A60 := Aside0.mk A600
      clear A600
      have H' := Aside0.mk H
      clear H
      have hnb61 := NB330_302.out
      have hnc61 := NB302_330.out
      have hnb62 := NB330_316.out
      have hnc62 := NB316_330.out
      have hnb63 := NB330_323.out
      have hnc63 := NB323_330.out
      have hcz64_0 : w58.cell? ⟨gb330, 0, none⟩ = some (.slice Ao44 t324.length co44) := (blk_cell BK330.out 0).trans rfl
      have hcz64_1 : w58.cell? ⟨gb330, 1, none⟩ = some (.slice Ao49 t327.length co49) := (blk_cell BK330.out 1).trans rfl
      have hfz64_0 := blk_frozen BK330.out 0
      have hfz64_1 := blk_frozen BK330.out 1
      have hnb65 := NB316_302.out
      have hnc65 := NB302_316.out
      have hnb66 := NB316_323.out
      have hnc66 := NB323_316.out
      have hcz67_0 : w58.cell? ⟨gb316, 0, none⟩ = some (.slice Ao30 t310.length co30) := (blk_cell BK316.out 0).trans rfl
      have hcz67_1 : w58.cell? ⟨gb316, 1, none⟩ = some (.slice Ao33 t313.length co33) := (blk_cell BK316.out 1).trans rfl
      have hfz67_0 := blk_frozen BK316.out 0
      have hfz67_1 := blk_frozen BK316.out 1
      go_wp2_with (first | (go_at_call 13; (with_reducible refine (laws_eqTensor.calls k _ _ t324 _ _ t327 _ _ t310 _ _ t313 t342 _ ?side1 ?side2 ?side3 ?side4 ?side5 ?side6 ?side7 ?side8 A60.out).mono ?_); (case side1 => exact (Cu ((Kd.R_reads' HO326.out).2.2))); (case side2 => exact (Kd.R_reads' HO326.out).2.1); (case side3 => exact (Cu ((Kd.R_reads' HO329.out).2.2))); (case side4 => exact (Kd.R_reads' HO329.out).2.1); (case side5 => exact (Cu ((Kd.R_reads' HO312.out).2.2))); (case side6 => exact (Kd.R_reads' HO312.out).2.1); (case side7 => exact (Cu ((Kd.R_reads' HO315.out).2.2))); (case side8 => exact (Kd.R_reads' HO315.out).2.1); rintro e w68 ⟨rfl, hb⟩; replace HO312 := Aside0.mk (Rb HO312.out hb); replace HO315 := Aside0.mk (Rb HO315.out hb); replace HO319 := Aside0.mk (Rb HO319.out hb); replace HO322 := Aside0.mk (Rb HO322.out hb); replace HO326 := Aside0.mk (Rb HO326.out hb); replace HO329 := Aside0.mk (Rb HO329.out hb); replace HO334 := Aside0.mk (Rb HO334.out hb); replace HO337 := Aside0.mk (Rb HO337.out hb); replace BK302 := Aside0.mk (Bb BK302.out hb); replace BK316 := Aside0.mk (Bb BK316.out hb); replace BK323 := Aside0.mk (Bb BK323.out hb); replace BK330 := Aside0.mk (Bb BK330.out hb); replace HB := Aside0.mk (below_step (HBu HB.out) hb); (try clear hb); (try clear hb2); (try clear hk); (try clear hi)))
      go_meet
      case rel => exact ⟨_, (!t342), (by first | rfl | (simp; done) | (simp [*]; done)), H', ⟨by first | omega | exact Nat.le_refl _⟩, ⟨by (with_reducible repeat (first | apply Kd.R_alloc | apply Kd.R_drewN | apply Kd.R_drew)); exact Kd.R_mono HO312.out (fun _ hk => ⟨hk.1, ⟨hk.2.1, ⟨hk.2.2.1, ⟨hk.2.2.2.1, hk.2.2.2.2.1⟩⟩⟩⟩)⟩, ⟨by (with_reducible repeat (first | apply Kd.R_alloc | apply Kd.R_drewN | apply Kd.R_drew)); exact Kd.R_mono HO315.out (fun _ hk => ⟨hk.1, ⟨hk.2.1, ⟨hk.2.2.1, ⟨hk.2.2.2.1, hk.2.2.2.2.1⟩⟩⟩⟩)⟩, ⟨by (with_reducible repeat (first | apply Kd.R_alloc | apply Kd.R_drewN | apply Kd.R_drew)); exact Kd.R_mono HO319.out (fun _ hk => ⟨hk.1.1.1.1.1.2, ⟨hk.1.1.1.1.2, ⟨hk.1.1.1.1.1.1.1.1, ⟨hk.1.1.1.2, hk.1.1.2⟩⟩⟩⟩)⟩, ⟨by (with_reducible repeat (first | apply Kd.R_alloc | apply Kd.R_drewN | apply Kd.R_drew)); exact Kd.R_mono HO322.out (fun _ hk => ⟨hk.1.1.1.1.1.2, ⟨hk.1.1.1.1.2, ⟨hk.1.1.1.1.1.1.1.1, ⟨hk.1.1.1.2, hk.1.1.2⟩⟩⟩⟩)⟩, ⟨by (with_reducible repeat (first | apply Kd.R_alloc | apply Kd.R_drewN | apply Kd.R_drew)); exact Kd.R_mono HO326.out (fun _ hk => ⟨hk.1, ⟨hk.2.1, ⟨hk.2.2.1, ⟨hk.2.2.2.1, hk.2.2.2.2.1⟩⟩⟩⟩)⟩, ⟨by (with_reducible repeat (first | apply Kd.R_alloc | apply Kd.R_drewN | apply Kd.R_drew)); exact Kd.R_mono HO329.out (fun _ hk => ⟨hk.1, ⟨hk.2.1, ⟨hk.2.2.1, ⟨hk.2.2.2.1, hk.2.2.2.2.1⟩⟩⟩⟩)⟩, ⟨by (with_reducible repeat (first | refine blk_drewN ?_ _ | refine blk_drew ?_ | refine blk_alloc ?_ _)); exact BK302.out⟩, ⟨by (with_reducible repeat (first | refine blk_drewN ?_ _ | refine blk_drew ?_ | refine blk_alloc ?_ _)); exact BK316.out⟩, ⟨by (with_reducible repeat (first | refine blk_drewN ?_ _ | refine blk_drew ?_ | refine blk_alloc ?_ _)); exact BK323.out⟩, ⟨by (with_reducible repeat (first | refine blk_drewN ?_ _ | refine blk_drew ?_ | refine blk_alloc ?_ _)); exact BK330.out⟩, ⟨HBu HB.out⟩⟩
    case rest =>
     clear HC20
     try clear c1
     try clear c2
     try clear p2
     try clear c3
     try clear c4
     try clear c5
     try clear c6
     try clear c6b0
     try clear c9
     try clear c11
     try clear c13
     try clear c14
     try clear c15
     try clear c18
     try clear c27
     try clear c28
     try clear c31
     try clear c38
     try clear c39
     try clear c45
     try clear c46
     try clear c47
     try clear c59
     try clear c59b0
     try clear c61
     try clear c62
     try clear c63
     try clear c65
     try clear c66
     try clear hcz22_0
     try clear hcz22_1
     try clear hcz24_0
     try clear hcz24_1
     try clear hcz32_0
     try clear hcz32_1
     try clear hcz34_0
     try clear hcz34_1
     try clear hcz40_0
     try clear hcz40_1
     try clear hcz48_0
     try clear hcz48_1
     try clear hcz50_0
     try clear hcz50_1
     try clear hcz57_0
     try clear hcz57_1
     try clear hcz64_0
     try clear hcz64_1
     try clear hcz67_0
     try clear hcz67_1
     try clear hcz8_0
     try clear hcz8_1
     try clear hfz22_0
     try clear hfz22_1
     try clear hfz24_0
     try clear hfz24_1
     try clear hfz32_0
     try clear hfz32_1
     try clear hfz34_0
     try clear hfz34_1
     try clear hfz40_0
     try clear hfz40_1
     try clear hfz48_0
     try clear hfz48_1
     try clear hfz50_0
     try clear hfz50_1
     try clear hfz57_0
     try clear hfz57_1
     try clear hfz64_0
     try clear hfz64_1
     try clear hfz67_0
     try clear hfz67_1
     try clear hfz8_0
     try clear hfz8_1
     obtain ⟨kq, x54_19, rfl, HA, HJ19, HO_317000, HO_317001, HO_324000, HO_324001, HO_331000, HO_331001, BK302, BK316, BK323, BK330, HB⟩ := hcut
     have hl324000_19 := (Kd.R_reads' HO_324000.out).1
     rw [hl324000_19] at HO_324000
     (try simp only [hl324000_19])
     (try simp only [hl324000_19] at BK302)
     (try simp only [hl324000_19] at BK316)
     (try simp only [hl324000_19] at BK323)
     (try simp only [hl324000_19] at BK330)
     (try simp only [hl324000_19] at HO_317000)
     (try simp only [hl324000_19] at HO_317001)
     (try simp only [hl324000_19] at HO_324001)
     (try simp only [hl324000_19] at HO_331000)
     (try simp only [hl324000_19] at HO_331001)
     have hl324001_19 := (Kd.R_reads' HO_324001.out).1
     rw [hl324001_19] at HO_324001
     (try simp only [hl324001_19])
     (try simp only [hl324001_19] at BK302)
     (try simp only [hl324001_19] at BK316)
     (try simp only [hl324001_19] at BK323)
     (try simp only [hl324001_19] at BK330)
     (try simp only [hl324001_19] at HO_317000)
     (try simp only [hl324001_19] at HO_317001)
     (try simp only [hl324001_19] at HO_324000)
     (try simp only [hl324001_19] at HO_331000)
     (try simp only [hl324001_19] at HO_331001)
     cases kq with
     | zero => exact absurd HA.out (by simp [laws_FnExactFold.j0])
     | succ kj19 =>
      have H := HA.out
      clear HA
      simp only [laws_FnExactFold.j0] at H
      by_cases c69 : x54_19 = true
      ·subst c69
       have H1 : (some false) = some r := by rw [if_pos rfl] at H; exact H
       clear H
       have H := H1
       clear H1
       rw [HRT.out] at H
       exact absurd H (by simp)
      ·replace c69 := Bool.eq_false_iff.mpr c69
       subst c69
       have H1 : ((laws_markTensor.f kj19 t324 t327 1).bind fun bt343 => ((laws_heldTensor.f kj19 bt343.2.1 bt343.2.2 1).bind fun t346 => (if t346 < 0 then (some false) else (if t346 = bt343.1 then ((laws_toTensor.f kj19 l0_0 l0_1).bind fun bt347 => ((impl_Fold.f kj19 bt347.1 bt347.2 a1 a2 a3).bind fun bt353 => ((laws_eqTensor.f kj19 bt353.1 bt353.2 t310 t313).bind fun t360 => (if t360 = true then ((laws_heldTensor.f kj19 bt343.2.1 bt343.2.2 1).bind fun t361 => (if t361 < 0 then (some false) else (if t361 = bt343.1 then (some true) else (some false)))) else (some false))))) else (some false))))) = some r := by rw [if_neg (show ¬ (false = true) by decide)] at H; exact H
       clear H
       have H := H1
       clear H1
       replace H := Option.bind_eq_some_iff.mp H
       obtain ⟨⟨t343, t344, t345⟩, A700, H⟩ := H
       replace H : ((laws_heldTensor.f kj19 t344 t345 1).bind fun t346 => (if t346 < 0 then (some false) else (if t346 = t343 then ((laws_toTensor.f kj19 l0_0 l0_1).bind fun bt347 => ((impl_Fold.f kj19 bt347.1 bt347.2 a1 a2 a3).bind fun bt353 => ((laws_eqTensor.f kj19 bt353.1 bt353.2 t310 t313).bind fun t360 => (if t360 = true then ((laws_heldTensor.f kj19 t344 t345 1).bind fun t361 => (if t361 < 0 then (some false) else (if t361 = t343 then (some true) else (some false)))) else (some false))))) else (some false)))) = some r := H
       have A70 := Aside0.mk A700
       clear A700
       replace H := Option.bind_eq_some_iff.mp H
       obtain ⟨t346, A710, H⟩ := H
       replace H : (if t346 < 0 then (some false) else (if t346 = t343 then ((laws_toTensor.f kj19 l0_0 l0_1).bind fun bt347 => ((impl_Fold.f kj19 bt347.1 bt347.2 a1 a2 a3).bind fun bt353 => ((laws_eqTensor.f kj19 bt353.1 bt353.2 t310 t313).bind fun t360 => (if t360 = true then ((laws_heldTensor.f kj19 t344 t345 1).bind fun t361 => (if t361 < 0 then (some false) else (if t361 = t343 then (some true) else (some false)))) else (some false))))) else (some false))) = some r := H
       have A71 := Aside0.mk A710
       clear A710
       by_cases c72 : t346 < 0
       ·rw [if_pos c72] at H
        have c72b0 : decide (t346 < 0) = true := decide_eq_true c72
        clear c72
        rw [HRT.out] at H
        exact absurd H (by simp)
       ·rw [if_neg c72] at H
        have c72b0 : decide (t346 < 0) = false := decide_eq_false c72
        clear c72
        by_cases c73 : t346 = t343
        ·rw [if_pos c73] at H
         have c73b0 : (t346 == t343) = true := beq_iff_eq.mpr c73
         have c73b1 : (t346 != t343) = false := bne_eq_false_iff_eq.mpr c73
         clear c73
         replace H := Option.bind_eq_some_iff.mp H
         obtain ⟨⟨t347, t350⟩, A740, H⟩ := H
         replace H : ((impl_Fold.f kj19 t347 t350 a1 a2 a3).bind fun bt353 => ((laws_eqTensor.f kj19 bt353.1 bt353.2 t310 t313).bind fun t360 => (if t360 = true then ((laws_heldTensor.f kj19 t344 t345 1).bind fun t361 => (if t361 < 0 then (some false) else (if t361 = t343 then (some true) else (some false)))) else (some false)))) = some r := H
         have A74 := Aside0.mk A740
         clear A740
         replace H := Option.bind_eq_some_iff.mp H
         obtain ⟨⟨t353, t356⟩, A750, H⟩ := H
         replace H : ((laws_eqTensor.f kj19 t353 t356 t310 t313).bind fun t360 => (if t360 = true then ((laws_heldTensor.f kj19 t344 t345 1).bind fun t361 => (if t361 < 0 then (some false) else (if t361 = t343 then (some true) else (some false)))) else (some false))) = some r := H
         have A75 := Aside0.mk A750
         clear A750
         replace H := Option.bind_eq_some_iff.mp H
         obtain ⟨t360, A760, H⟩ := H
         replace H : (if t360 = true then ((laws_heldTensor.f kj19 t344 t345 1).bind fun t361 => (if t361 < 0 then (some false) else (if t361 = t343 then (some true) else (some false)))) else (some false)) = some r := H
         have A76 := Aside0.mk A760
         clear A760
         by_cases c77 : t360 = true
         ·subst c77
          have H1 : ((laws_heldTensor.f kj19 t344 t345 1).bind fun t361 => (if t361 < 0 then (some false) else (if t361 = t343 then (some true) else (some false)))) = some r := by rw [if_pos rfl] at H; exact H
          clear H
          have H := H1
          clear H1
          replace H := Option.bind_eq_some_iff.mp H
          obtain ⟨t361, A780, H⟩ := H
          replace H : (if t361 < 0 then (some false) else (if t361 = t343 then (some true) else (some false))) = some r := H
          have A78 := Aside0.mk A780
          clear A780
          by_cases c79 : t361 < 0
          ·rw [if_pos c79] at H
           have c79b0 : decide (t361 < 0) = true := decide_eq_true c79
           clear c79
           rw [HRT.out] at H
           exact absurd H (by simp)
          ·rw [if_neg c79] at H
           have c79b0 : decide (t361 < 0) = false := decide_eq_false c79
           clear c79
           by_cases c80 : t361 = t343
           ·rw [if_pos c80] at H
            have c80b0 : (t361 == t343) = true := beq_iff_eq.mpr c80
            have c80b1 : (t361 != t343) = false := bne_eq_false_iff_eq.mpr c80
            clear c80
            obtain rfl := Option.some.inj H
            have hnb81 := NB330_302.out
            have hnc81 := NB302_330.out
            have hnb82 := NB330_316.out
            have hnc82 := NB316_330.out
            have hnb83 := NB330_323.out
            have hnc83 := NB323_330.out
            have hcz84_0 : wc.cell? ⟨gb330, 0, none⟩ = some (.slice Ao44 t324.length co44) := (blk_cell BK330.out 0).trans rfl
            have hcz84_1 : wc.cell? ⟨gb330, 1, none⟩ = some (.slice Ao49 t327.length co49) := (blk_cell BK330.out 1).trans rfl
            have hfz84_0 := blk_frozen BK330.out 0
            have hfz84_1 := blk_frozen BK330.out 1
            go_wp2_with (first | ((with_reducible refine gate_callee (f := 14) rfl ?_); refine goesL_ (some 57) rfl rfl Try.func14 (by kernel_rfl) rfl #[.agg #[.slice Ao44 t324.length co44, .slice Ao49 t327.length co49], .int .i64 1] rfl (by (try simp only [List.map_toArray, List.map_cons, List.map_nil]); first | done | rfl | (simp only [List.length_drop, List.length_take]; rfl)) ?_; (with_reducible refine (laws_markTensor.calls kj19 (fun k_ => some k_ = (.slice Ao44 t324.length co44 : Value).ownBlock) (.slice Ao44 t324.length co44) t324 (fun k_ => some k_ = (.slice Ao49 t327.length co49 : Value).ownBlock) (.slice Ao49 t327.length co49) t327 1 t343 t344 t345 w _ ?side1 ?side2 ?side3 ?side4 ?side5 A70.out).mono ?_); (case side1 => exact HBu HB.out); (case side2 => exact Kd.R_tight rfl HO_331000.out); (case side3 => exact fun k_ e_ => (HO_331000.out.1 k_ e_.symm).2.2.2.2); (case side4 => exact Kd.R_tight rfl HO_331001.out); (case side5 => exact fun k_ e_ => (HO_331001.out.1 k_ e_.symm).2.2.2.2); rintro e w85 ⟨rfl, hy0, hy1, hb, hkp⟩; refine ⟨_, rfl, ?_⟩; replace HO_317000 := Aside0.mk (Kd.R_mono (ok' := fun k_ => some k_ ≠ (.slice Ao33 t313.length co33 : Value).ownBlock ∧ some k_ ≠ (.slice Ao37 t340.length co37 : Value).ownBlock ∧ some k_ ≠ (.slice Ao41 t341.length co41 : Value).ownBlock ∧ some k_ ≠ (.slice Ao44 t324.length co44 : Value).ownBlock ∧ some k_ ≠ (.slice Ao49 t327.length co49 : Value).ownBlock) (Kd.R_keptB (HO_317000.out) hkp (fun k_ hk_ hs_ => Or.elim hs_ (fun e_ => (hk_.2.2.2.1) e_) (fun e_ => (hk_.2.2.2.2) e_))) (fun k_ hk_ => ⟨hk_.1.1, hk_.1.2.1, hk_.1.2.2.1, hk_.1.2.2.2.1, hk_.1.2.2.2.2⟩)); replace HO_317001 := Aside0.mk (Kd.R_mono (ok' := fun k_ => some k_ ≠ (.slice Ao30 t310.length co30 : Value).ownBlock ∧ some k_ ≠ (.slice Ao37 t340.length co37 : Value).ownBlock ∧ some k_ ≠ (.slice Ao41 t341.length co41 : Value).ownBlock ∧ some k_ ≠ (.slice Ao44 t324.length co44 : Value).ownBlock ∧ some k_ ≠ (.slice Ao49 t327.length co49 : Value).ownBlock) (Kd.R_keptB (HO_317001.out) hkp (fun k_ hk_ hs_ => Or.elim hs_ (fun e_ => (hk_.2.2.2.1) e_) (fun e_ => (hk_.2.2.2.2) e_))) (fun k_ hk_ => ⟨hk_.1.1, hk_.1.2.1, hk_.1.2.2.1, hk_.1.2.2.2.1, hk_.1.2.2.2.2⟩)); replace HO_324000 := Aside0.mk (Kd.R_mono (ok' := fun k_ => some k_ ≠ (.slice Ao30 t310.length co30 : Value).ownBlock ∧ some k_ ≠ (.slice Ao33 t313.length co33 : Value).ownBlock ∧ some k_ ≠ (.slice Ao41 t341.length co41 : Value).ownBlock ∧ some k_ ≠ (.slice Ao44 t324.length co44 : Value).ownBlock ∧ some k_ ≠ (.slice Ao49 t327.length co49 : Value).ownBlock) (Kd.R_keptB (HO_324000.out) hkp (fun k_ hk_ hs_ => Or.elim hs_ (fun e_ => (hk_.2.2.2.1) e_) (fun e_ => (hk_.2.2.2.2) e_))) (fun k_ hk_ => ⟨hk_.1.1, hk_.1.2.1, hk_.1.2.2.1, hk_.1.2.2.2.1, hk_.1.2.2.2.2⟩)); replace HO_324001 := Aside0.mk (Kd.R_mono (ok' := fun k_ => some k_ ≠ (.slice Ao30 t310.length co30 : Value).ownBlock ∧ some k_ ≠ (.slice Ao33 t313.length co33 : Value).ownBlock ∧ some k_ ≠ (.slice Ao37 t340.length co37 : Value).ownBlock ∧ some k_ ≠ (.slice Ao44 t324.length co44 : Value).ownBlock ∧ some k_ ≠ (.slice Ao49 t327.length co49 : Value).ownBlock) (Kd.R_keptB (HO_324001.out) hkp (fun k_ hk_ hs_ => Or.elim hs_ (fun e_ => (hk_.2.2.2.1) e_) (fun e_ => (hk_.2.2.2.2) e_))) (fun k_ hk_ => ⟨hk_.1.1, hk_.1.2.1, hk_.1.2.2.1, hk_.1.2.2.2.1, hk_.1.2.2.2.2⟩)); replace BK302 := Aside0.mk (blk_kept (by first | exact BK302.out | ((with_reducible repeat (first | refine blk_drewN ?_ _ | refine blk_drew ?_ | refine blk_alloc ?_ _)); exact BK302.out)) hkp (fun hs_ => Or.elim hs_ (fun e_ => (fun e_ => (Kd.R_ne HO_331000.out BK302.out (by decide)) e_) e_) (fun e_ => (fun e_ => (Kd.R_ne HO_331001.out BK302.out (by decide)) e_) e_))); replace BK316 := Aside0.mk (blk_kept (by first | exact BK316.out | ((with_reducible repeat (first | refine blk_drewN ?_ _ | refine blk_drew ?_ | refine blk_alloc ?_ _)); exact BK316.out)) hkp (fun hs_ => Or.elim hs_ (fun e_ => (fun e_ => (Kd.R_ne HO_331000.out BK316.out (by decide)) e_) e_) (fun e_ => (fun e_ => (Kd.R_ne HO_331001.out BK316.out (by decide)) e_) e_))); replace BK323 := Aside0.mk (blk_kept (by first | exact BK323.out | ((with_reducible repeat (first | refine blk_drewN ?_ _ | refine blk_drew ?_ | refine blk_alloc ?_ _)); exact BK323.out)) hkp (fun hs_ => Or.elim hs_ (fun e_ => (fun e_ => (Kd.R_ne HO_331000.out BK323.out (by decide)) e_) e_) (fun e_ => (fun e_ => (Kd.R_ne HO_331001.out BK323.out (by decide)) e_) e_))); replace BK330 := Aside0.mk (blk_kept (by first | exact BK330.out | ((with_reducible repeat (first | refine blk_drewN ?_ _ | refine blk_drew ?_ | refine blk_alloc ?_ _)); exact BK330.out)) hkp (fun hs_ => Or.elim hs_ (fun e_ => (fun e_ => (Kd.R_ne HO_331000.out BK330.out (by decide)) e_) e_) (fun e_ => (fun e_ => (Kd.R_ne HO_331001.out BK330.out (by decide)) e_) e_))); replace HO_331000 := Aside0.mk (Kd.R_reok rfl hy0 (fun k_ e_ => HO_331000.out.1 k_ e_)); replace HO_331001 := Aside0.mk (Kd.R_reok rfl hy1 (fun k_ e_ => HO_331001.out.1 k_ e_)); replace HB := Aside0.mk (hb); (try clear hb); (try clear hkp); (try clear hy0); (try clear hy1); have hcz86_0 : w85.cell? ⟨gb330, 0, none⟩ = some (.slice Ao44 t324.length co44) := (blk_cell BK330.out 0).trans rfl; have hcz86_1 : w85.cell? ⟨gb330, 1, none⟩ = some (.slice Ao49 t327.length co49) := (blk_cell BK330.out 1).trans rfl; have hfz86_0 := blk_frozen BK330.out 0; have hfz86_1 := blk_frozen BK330.out 1) | ((with_reducible refine gate_callee (f := 15) rfl ?_); refine goesL_ (some 60) rfl rfl Try.func15 (by kernel_rfl) rfl #[.agg #[.slice Ao44 t344.length co44, .slice Ao49 t345.length co49], .int .i64 1] rfl (by (try simp only [List.map_toArray, List.map_cons, List.map_nil]); first | done | (rw [show t344.length = t324.length from (Kd.R_reads' HO_331000.out).1.symm, show t345.length = t327.length from (Kd.R_reads' HO_331001.out).1.symm] <;> rfl) | rfl | (simp only [List.length_drop, List.length_take]; rfl)) ?_; (with_reducible refine (laws_heldTensor.calls kj19 _ _ t344 _ _ t345 1 t346 _ ?side1 ?side2 ?side3 ?side4 A71.out).mono ?_); (case side1 => exact (Cu ((Kd.R_reads' HO_331000.out).2.2))); (case side2 => rw [show t344.length = t324.length from (Kd.R_reads' HO_331000.out).1.symm]; exact (Kd.R_reads' HO_331000.out).2.1); (case side3 => exact (Cu ((Kd.R_reads' HO_331001.out).2.2))); (case side4 => rw [show t345.length = t327.length from (Kd.R_reads' HO_331001.out).1.symm]; exact (Kd.R_reads' HO_331001.out).2.1); rintro e w87 ⟨rfl, hb⟩; refine ⟨_, rfl, ?_⟩; replace HO_317000 := Aside0.mk (Rb HO_317000.out hb); replace HO_317001 := Aside0.mk (Rb HO_317001.out hb); replace HO_324000 := Aside0.mk (Rb HO_324000.out hb); replace HO_324001 := Aside0.mk (Rb HO_324001.out hb); replace HO_331000 := Aside0.mk (Rb HO_331000.out hb); replace HO_331001 := Aside0.mk (Rb HO_331001.out hb); replace BK302 := Aside0.mk (Bb BK302.out hb); replace BK316 := Aside0.mk (Bb BK316.out hb); replace BK323 := Aside0.mk (Bb BK323.out hb); replace BK330 := Aside0.mk (Bb BK330.out hb); replace HB := Aside0.mk (below_step (HBu HB.out) hb); (try clear hb); (try clear hb2); (try clear hk); (try clear hi); have hnb88 := NB302_316.out; have hnc88 := NB316_302.out; have hnb89 := NB302_323.out; have hnc89 := NB323_302.out; have hcz90_0 : w87.cell? ⟨gb302, 0, none⟩ = some (.slice A0_0 l0_0.length c0_0) := (blk_cell BK302.out 0).trans rfl; have hcz90_1 : w87.cell? ⟨gb302, 1, none⟩ = some (.slice A0_1 l0_1.length c0_1) := (blk_cell BK302.out 1).trans rfl; have hfz90_0 := blk_frozen BK302.out 0; have hfz90_1 := blk_frozen BK302.out 1) | ((with_reducible refine gate_callee (f := 11) rfl ?_); refine goesL_ (some 67) rfl rfl Try.func11 (by kernel_rfl) rfl #[.agg #[.slice A0_0 l0_0.length c0_0, .slice A0_1 l0_1.length c0_1]] rfl (by (try simp only [List.map_toArray, List.map_cons, List.map_nil]); first | done | rfl | (simp only [List.length_drop, List.length_take]; rfl)) ?_; (with_reducible refine (laws_toTensor.calls kj19 _ _ l0_0 _ _ l0_1 t347 t350 _ ?side1 ?side2 ?side3 ?side4 A74.out).mono ?_); (case side1 => exact (Cu ((Kd.C_below HR0_0.out HB.out)))); (case side2 => exact HC0_0.out); (case side3 => exact (Cu ((Kd.C_below HR0_1.out HB.out)))); (case side4 => exact HC0_1.out); rintro e w91 ⟨v348, v351, rfl, ho0, ho1, hb⟩; refine ⟨_, rfl, ?_⟩; have HO349 := Aside0.mk (Kd.R_lower (Kd.R_new' (Kd.R_new' (Kd.R_new' (Kd.R_new' (Kd.R_new' (Kd.R_new' ho0 (Kd.R_lt (Ru HO_317000.out))) (Kd.R_lt (Ru HO_317001.out))) (Kd.R_lt (Ru HO_324000.out))) (Kd.R_lt (Ru HO_324001.out))) (Kd.R_lt (Ru HO_331000.out))) (Kd.R_lt (Ru HO_331001.out))) (below_size (HBu HB.out))); have HO352 := Aside0.mk (Kd.R_lower (Kd.R_new' (Kd.R_new' (Kd.R_new' (Kd.R_new' (Kd.R_new' (Kd.R_new' ho1 (Kd.R_lt (Ru HO_317000.out))) (Kd.R_lt (Ru HO_317001.out))) (Kd.R_lt (Ru HO_324000.out))) (Kd.R_lt (Ru HO_324001.out))) (Kd.R_lt (Ru HO_331000.out))) (Kd.R_lt (Ru HO_331001.out))) (below_size (HBu HB.out))); replace HO_317000 := Aside0.mk (Rt2 HO_317000.out hb ho0 ho1); replace HO_317001 := Aside0.mk (Rt2 HO_317001.out hb ho0 ho1); replace HO_324000 := Aside0.mk (Rt2 HO_324000.out hb ho0 ho1); replace HO_324001 := Aside0.mk (Rt2 HO_324001.out hb ho0 ho1); replace HO_331000 := Aside0.mk (Rt2 HO_331000.out hb ho0 ho1); replace HO_331001 := Aside0.mk (Rt2 HO_331001.out hb ho0 ho1); replace BK302 := Aside0.mk (Bb BK302.out hb); replace BK316 := Aside0.mk (Bb BK316.out hb); replace BK323 := Aside0.mk (Bb BK323.out hb); replace BK330 := Aside0.mk (Bb BK330.out hb); replace HB := Aside0.mk (below_step (HBu HB.out) hb); (try clear hb); (try clear hb2); (try clear hk); (try clear hi); (try clear ho0); (try clear ho1); obtain ⟨Ao92, co92, eo92⟩ := Kd.R_slice HO349.out; subst eo92; obtain ⟨Ao93, co93, eo93⟩ := Kd.R_slice HO352.out; subst eo93) | ((with_reducible refine gate_callee (f := 28) rfl ?_); refine goesL_ (some 71) rfl rfl Try.func28 (by kernel_rfl) rfl #[.agg #[.slice Ao92 t347.length co92, .slice Ao93 t350.length co93], .int .i64 a1, .int .i64 a2, .int .i64 a3] rfl (by (try simp only [List.map_toArray, List.map_cons, List.map_nil]); first | done | rfl | (simp only [List.length_drop, List.length_take]; rfl)) ?_; (with_reducible refine (impl_Fold.calls kj19 _ _ t347 _ _ t350 a1 a2 a3 t353 t356 _ ?side1 ?side2 ?side3 ?side4 A75.out).mono ?_); (case side1 => exact (Cu ((Kd.R_reads' HO349.out).2.2))); (case side2 => exact (Kd.R_reads' HO349.out).2.1); (case side3 => exact (Cu ((Kd.R_reads' HO352.out).2.2))); (case side4 => exact (Kd.R_reads' HO352.out).2.1); rintro e w94 ⟨v354, v357, rfl, ho0, ho1, hb⟩; refine ⟨_, rfl, ?_⟩; have HO355 := Aside0.mk (Kd.R_lower (Kd.R_new' (Kd.R_new' (Kd.R_new' (Kd.R_new' (Kd.R_new' (Kd.R_new' (Kd.R_new' (Kd.R_new' ho0 (Kd.R_lt (Ru HO_317000.out))) (Kd.R_lt (Ru HO_317001.out))) (Kd.R_lt (Ru HO_324000.out))) (Kd.R_lt (Ru HO_324001.out))) (Kd.R_lt (Ru HO_331000.out))) (Kd.R_lt (Ru HO_331001.out))) (Kd.R_lt (Ru HO349.out))) (Kd.R_lt (Ru HO352.out))) (below_size (HBu HB.out))); have HO358 := Aside0.mk (Kd.R_lower (Kd.R_new' (Kd.R_new' (Kd.R_new' (Kd.R_new' (Kd.R_new' (Kd.R_new' (Kd.R_new' (Kd.R_new' ho1 (Kd.R_lt (Ru HO_317000.out))) (Kd.R_lt (Ru HO_317001.out))) (Kd.R_lt (Ru HO_324000.out))) (Kd.R_lt (Ru HO_324001.out))) (Kd.R_lt (Ru HO_331000.out))) (Kd.R_lt (Ru HO_331001.out))) (Kd.R_lt (Ru HO349.out))) (Kd.R_lt (Ru HO352.out))) (below_size (HBu HB.out))); replace HO_317000 := Aside0.mk (Rt2 HO_317000.out hb ho0 ho1); replace HO_317001 := Aside0.mk (Rt2 HO_317001.out hb ho0 ho1); replace HO_324000 := Aside0.mk (Rt2 HO_324000.out hb ho0 ho1); replace HO_324001 := Aside0.mk (Rt2 HO_324001.out hb ho0 ho1); replace HO_331000 := Aside0.mk (Rt2 HO_331000.out hb ho0 ho1); replace HO_331001 := Aside0.mk (Rt2 HO_331001.out hb ho0 ho1); replace HO349 := Aside0.mk (Rt2 HO349.out hb ho0 ho1); replace HO352 := Aside0.mk (Rt2 HO352.out hb ho0 ho1); replace BK302 := Aside0.mk (Bb BK302.out hb); replace BK316 := Aside0.mk (Bb BK316.out hb); replace BK323 := Aside0.mk (Bb BK323.out hb); replace BK330 := Aside0.mk (Bb BK330.out hb); replace HB := Aside0.mk (below_step (HBu HB.out) hb); (try clear hb); (try clear hb2); (try clear hk); (try clear hi); (try clear ho0); (try clear ho1)) | ((with_reducible refine gate_dst (N := 16) rfl ?_); refine box_event ?hg (N := 16) ?hd (cs := #[.slice none 0 0, .slice none 0 0]) (t := 26) ?hr ?_; (case hd => rfl); (case hg => rfl); (case hr => first | (go_simp; done) | (go_simp; rfl)); intro gb359 hg w95 hbox hb; have BK359 := Aside0.mk (hbox); have GW359 := Aside0.mk ((by rw [hg]; exact (below_size (HBu HB.out)) : w.heap.size ≤ gb359)); have GE359 := Aside0.mk ((by rw [hg]; exact (below_size (HBu HB.out)) : w.heap.size ≤ gb359)); have NB302_359 := Aside0.mk ((by rw [hg]; exact Nat.ne_of_lt (blk_lt (g := gb302) (o := .cells #[.slice A0_0 l0_0.length c0_0, .slice A0_1 l0_1.length c0_1] 24 (0, 0)) (Bu BK302.out)) : gb302 ≠ gb359)); have NB359_302 := Aside0.mk ((by rw [hg]; exact Nat.ne_of_gt (blk_lt (g := gb302) (o := .cells #[.slice A0_0 l0_0.length c0_0, .slice A0_1 l0_1.length c0_1] 24 (0, 0)) (Bu BK302.out)) : gb359 ≠ gb302)); have NB316_359 := Aside0.mk ((by rw [hg]; exact Nat.ne_of_lt (blk_lt (g := gb316) (o := .cells #[.slice Ao30 t310.length co30, .slice Ao33 t313.length co33] 26 (0, 0)) (Bu BK316.out)) : gb316 ≠ gb359)); have NB359_316 := Aside0.mk ((by rw [hg]; exact Nat.ne_of_gt (blk_lt (g := gb316) (o := .cells #[.slice Ao30 t310.length co30, .slice Ao33 t313.length co33] 26 (0, 0)) (Bu BK316.out)) : gb359 ≠ gb316)); have NB323_359 := Aside0.mk ((by rw [hg]; exact Nat.ne_of_lt (blk_lt (g := gb323) (o := .cells #[.slice Ao37 t340.length co37, .slice Ao41 t341.length co41] 26 (0, 0)) (Bu BK323.out)) : gb323 ≠ gb359)); have NB359_323 := Aside0.mk ((by rw [hg]; exact Nat.ne_of_gt (blk_lt (g := gb323) (o := .cells #[.slice Ao37 t340.length co37, .slice Ao41 t341.length co41] 26 (0, 0)) (Bu BK323.out)) : gb359 ≠ gb323)); have NB330_359 := Aside0.mk ((by rw [hg]; exact Nat.ne_of_lt (blk_lt (g := gb330) (o := .cells #[.slice Ao44 t324.length co44, .slice Ao49 t327.length co49] 26 (0, 0)) (Bu BK330.out)) : gb330 ≠ gb359)); have NB359_330 := Aside0.mk ((by rw [hg]; exact Nat.ne_of_gt (blk_lt (g := gb330) (o := .cells #[.slice Ao44 t324.length co44, .slice Ao49 t327.length co49] 26 (0, 0)) (Bu BK330.out)) : gb359 ≠ gb330)); replace HO_317000 := Aside0.mk (Rb HO_317000.out hb); replace HO_317001 := Aside0.mk (Rb HO_317001.out hb); replace HO_324000 := Aside0.mk (Rb HO_324000.out hb); replace HO_324001 := Aside0.mk (Rb HO_324001.out hb); replace HO_331000 := Aside0.mk (Rb HO_331000.out hb); replace HO_331001 := Aside0.mk (Rb HO_331001.out hb); replace HO349 := Aside0.mk (Rb HO349.out hb); replace HO352 := Aside0.mk (Rb HO352.out hb); replace HO355 := Aside0.mk (Rb HO355.out hb); replace HO358 := Aside0.mk (Rb HO358.out hb); replace BK302 := Aside0.mk (Bb BK302.out hb); replace BK316 := Aside0.mk (Bb BK316.out hb); replace BK323 := Aside0.mk (Bb BK323.out hb); replace BK330 := Aside0.mk (Bb BK330.out hb); replace HB := Aside0.mk (below_step (HBu HB.out) hb); clear hb hbox hg; obtain ⟨Ao96, co96, eo96⟩ := Kd.R_slice HO355.out; subst eo96; have hnb97 := NB359_302.out; have hnc97 := NB302_359.out; have hnb98 := NB359_316.out; have hnc98 := NB316_359.out; have hnb99 := NB359_323.out; have hnc99 := NB323_359.out; have hnb100 := NB359_330.out; have hnc100 := NB330_359.out; have hcz101_0 : w95.cell? ⟨gb359, 0, none⟩ = some (.slice none 0 0) := (blk_cell BK359.out 0).trans rfl; have hcz101_1 : w95.cell? ⟨gb359, 1, none⟩ = some (.slice none 0 0) := (blk_cell BK359.out 1).trans rfl; have hfz101_0 := blk_frozen BK359.out 0; have hfz101_1 := blk_frozen BK359.out 1; obtain ⟨Ao102, co102, eo102⟩ := Kd.R_slice HO358.out; subst eo102; have hnb103 := NB316_323.out; have hnc103 := NB323_316.out; have hcz104_0 : w95.cell? ⟨gb316, 0, none⟩ = some (.slice Ao30 t310.length co30) := (blk_cell BK316.out 0).trans rfl; have hcz104_1 : w95.cell? ⟨gb316, 1, none⟩ = some (.slice Ao33 t313.length co33) := (blk_cell BK316.out 1).trans rfl; have hfz104_0 := blk_frozen BK316.out 0; have hfz104_1 := blk_frozen BK316.out 1) | ((with_reducible refine gate_callee (f := 13) rfl ?_); refine goesL_ (some 74) rfl rfl Try.func13 (by kernel_rfl) rfl #[.agg #[.slice Ao96 t353.length co96, .slice Ao102 t356.length co102], .agg #[.slice Ao30 t310.length co30, .slice Ao33 t313.length co33]] rfl (by (try simp only [List.map_toArray, List.map_cons, List.map_nil]); first | done | rfl | (simp only [List.length_drop, List.length_take]; rfl)) ?_; (with_reducible refine (laws_eqTensor.calls kj19 _ _ t353 _ _ t356 _ _ t310 _ _ t313 true _ ?side1 ?side2 ?side3 ?side4 ?side5 ?side6 ?side7 ?side8 A76.out).mono ?_); (case side1 => refine (Kd.R_reads' (e := 3) (base := w.heap.size) (ok := fun k_ => ((((((((some k_ ≠ (.slice Ao102 t356.length co102 : Value).ownBlock ∧ some k_ ≠ (.slice Ao30 t310.length co30 : Value).ownBlock) ∧ some k_ ≠ (.slice Ao33 t313.length co33 : Value).ownBlock) ∧ some k_ ≠ (.slice Ao37 t340.length co37 : Value).ownBlock) ∧ some k_ ≠ (.slice Ao41 t341.length co41 : Value).ownBlock) ∧ some k_ ≠ (.slice Ao44 t324.length co44 : Value).ownBlock) ∧ some k_ ≠ (.slice Ao49 t327.length co49 : Value).ownBlock) ∧ some k_ ≠ (.slice Ao92 t347.length co92 : Value).ownBlock) ∧ some k_ ≠ (.slice Ao93 t350.length co93 : Value).ownBlock)) (n := t353.length) (c := co96) ?_).2.2; exact (Ru (Rf2 HO355.out BK359.out (by decide) (.slice Ao96 t353.length co96) (.slice Ao102 t356.length co102)))); (case side2 => exact (Kd.R_reads' HO355.out).2.1); (case side3 => refine (Kd.R_reads' (e := 3) (base := w.heap.size) (ok := fun k_ => ((((((((some k_ ≠ (.slice Ao96 t353.length co96 : Value).ownBlock ∧ some k_ ≠ (.slice Ao30 t310.length co30 : Value).ownBlock) ∧ some k_ ≠ (.slice Ao33 t313.length co33 : Value).ownBlock) ∧ some k_ ≠ (.slice Ao37 t340.length co37 : Value).ownBlock) ∧ some k_ ≠ (.slice Ao41 t341.length co41 : Value).ownBlock) ∧ some k_ ≠ (.slice Ao44 t324.length co44 : Value).ownBlock) ∧ some k_ ≠ (.slice Ao49 t327.length co49 : Value).ownBlock) ∧ some k_ ≠ (.slice Ao92 t347.length co92 : Value).ownBlock) ∧ some k_ ≠ (.slice Ao93 t350.length co93 : Value).ownBlock)) (n := t356.length) (c := co102) ?_).2.2; exact (Ru (Rf2 HO358.out BK359.out (by decide) (.slice Ao96 t353.length co96) (.slice Ao102 t356.length co102)))); (case side4 => exact (Kd.R_reads' HO358.out).2.1); (case side5 => refine (Kd.R_reads' (e := 3) (base := w.heap.size) (ok := fun k_ => (((((some k_ ≠ (.slice Ao33 t313.length co33 : Value).ownBlock ∧ (some k_ ≠ (.slice Ao37 t340.length co37 : Value).ownBlock ∧ (some k_ ≠ (.slice Ao41 t341.length co41 : Value).ownBlock ∧ (some k_ ≠ (.slice Ao44 t324.length co44 : Value).ownBlock ∧ some k_ ≠ (.slice Ao49 t327.length co49 : Value).ownBlock)))) ∧ some k_ ≠ (.slice Ao92 t347.length co92 : Value).ownBlock) ∧ some k_ ≠ (.slice Ao93 t350.length co93 : Value).ownBlock) ∧ some k_ ≠ (.slice Ao96 t353.length co96 : Value).ownBlock) ∧ some k_ ≠ (.slice Ao102 t356.length co102 : Value).ownBlock)) (n := t310.length) (c := co30) ?_).2.2; exact (Ru (Rf2 HO_317000.out BK359.out (by decide) (.slice Ao96 t353.length co96) (.slice Ao102 t356.length co102)))); (case side6 => exact (Kd.R_reads' HO_317000.out).2.1); (case side7 => refine (Kd.R_reads' (e := 3) (base := w.heap.size) (ok := fun k_ => (((((some k_ ≠ (.slice Ao30 t310.length co30 : Value).ownBlock ∧ (some k_ ≠ (.slice Ao37 t340.length co37 : Value).ownBlock ∧ (some k_ ≠ (.slice Ao41 t341.length co41 : Value).ownBlock ∧ (some k_ ≠ (.slice Ao44 t324.length co44 : Value).ownBlock ∧ some k_ ≠ (.slice Ao49 t327.length co49 : Value).ownBlock)))) ∧ some k_ ≠ (.slice Ao92 t347.length co92 : Value).ownBlock) ∧ some k_ ≠ (.slice Ao93 t350.length co93 : Value).ownBlock) ∧ some k_ ≠ (.slice Ao96 t353.length co96 : Value).ownBlock) ∧ some k_ ≠ (.slice Ao102 t356.length co102 : Value).ownBlock)) (n := t313.length) (c := co33) ?_).2.2; exact (Ru (Rf2 HO_317001.out BK359.out (by decide) (.slice Ao96 t353.length co96) (.slice Ao102 t356.length co102)))); (case side8 => exact (Kd.R_reads' HO_317001.out).2.1); rintro e w105 ⟨rfl, hb⟩; refine ⟨_, rfl, ?_⟩; replace HO_317000 := Aside0.mk (Kd.R_below (Ru (Rf2 HO_317000.out BK359.out (by decide) (.slice Ao96 t353.length co96) (.slice Ao102 t356.length co102))) hb); replace HO_317001 := Aside0.mk (Kd.R_below (Ru (Rf2 HO_317001.out BK359.out (by decide) (.slice Ao96 t353.length co96) (.slice Ao102 t356.length co102))) hb); replace HO_324000 := Aside0.mk (Kd.R_below (Ru (Rf2 HO_324000.out BK359.out (by decide) (.slice Ao96 t353.length co96) (.slice Ao102 t356.length co102))) hb); replace HO_324001 := Aside0.mk (Kd.R_below (Ru (Rf2 HO_324001.out BK359.out (by decide) (.slice Ao96 t353.length co96) (.slice Ao102 t356.length co102))) hb); replace HO_331000 := Aside0.mk (Kd.R_below (Ru (Rf2 HO_331000.out BK359.out (by decide) (.slice Ao96 t353.length co96) (.slice Ao102 t356.length co102))) hb); replace HO_331001 := Aside0.mk (Kd.R_below (Ru (Rf2 HO_331001.out BK359.out (by decide) (.slice Ao96 t353.length co96) (.slice Ao102 t356.length co102))) hb); replace HO349 := Aside0.mk (Kd.R_below (Ru (Rf2 HO349.out BK359.out (by decide) (.slice Ao96 t353.length co96) (.slice Ao102 t356.length co102))) hb); replace HO352 := Aside0.mk (Kd.R_below (Ru (Rf2 HO352.out BK359.out (by decide) (.slice Ao96 t353.length co96) (.slice Ao102 t356.length co102))) hb); replace HO355 := Aside0.mk (Kd.R_below (Ru (Rf2 HO355.out BK359.out (by decide) (.slice Ao96 t353.length co96) (.slice Ao102 t356.length co102))) hb); replace HO358 := Aside0.mk (Kd.R_below (Ru (Rf2 HO358.out BK359.out (by decide) (.slice Ao96 t353.length co96) (.slice Ao102 t356.length co102))) hb); replace BK302 := Aside0.mk (blk_below (g := gb302) (o := .cells #[.slice A0_0 l0_0.length c0_0, .slice A0_1 l0_1.length c0_1] 24 (0, 0)) (by (with_reducible repeat (first | refine blk_drewN ?_ _ | refine blk_drew ?_ | refine blk_alloc ?_ _)); refine blk_far ?_ NB302_359.out _; (with_reducible repeat (first | refine blk_drewN ?_ _ | refine blk_drew ?_ | refine blk_alloc ?_ _)); refine blk_far ?_ NB302_359.out _; (with_reducible repeat (first | refine blk_drewN ?_ _ | refine blk_drew ?_ | refine blk_alloc ?_ _)); exact BK302.out) hb); replace BK316 := Aside0.mk (blk_below (g := gb316) (o := .cells #[.slice Ao30 t310.length co30, .slice Ao33 t313.length co33] 26 (0, 0)) (by (with_reducible repeat (first | refine blk_drewN ?_ _ | refine blk_drew ?_ | refine blk_alloc ?_ _)); refine blk_far ?_ NB316_359.out _; (with_reducible repeat (first | refine blk_drewN ?_ _ | refine blk_drew ?_ | refine blk_alloc ?_ _)); refine blk_far ?_ NB316_359.out _; (with_reducible repeat (first | refine blk_drewN ?_ _ | refine blk_drew ?_ | refine blk_alloc ?_ _)); exact BK316.out) hb); replace BK323 := Aside0.mk (blk_below (g := gb323) (o := .cells #[.slice Ao37 t340.length co37, .slice Ao41 t341.length co41] 26 (0, 0)) (by (with_reducible repeat (first | refine blk_drewN ?_ _ | refine blk_drew ?_ | refine blk_alloc ?_ _)); refine blk_far ?_ NB323_359.out _; (with_reducible repeat (first | refine blk_drewN ?_ _ | refine blk_drew ?_ | refine blk_alloc ?_ _)); refine blk_far ?_ NB323_359.out _; (with_reducible repeat (first | refine blk_drewN ?_ _ | refine blk_drew ?_ | refine blk_alloc ?_ _)); exact BK323.out) hb); replace BK330 := Aside0.mk (blk_below (g := gb330) (o := .cells #[.slice Ao44 t324.length co44, .slice Ao49 t327.length co49] 26 (0, 0)) (by (with_reducible repeat (first | refine blk_drewN ?_ _ | refine blk_drew ?_ | refine blk_alloc ?_ _)); refine blk_far ?_ NB330_359.out _; (with_reducible repeat (first | refine blk_drewN ?_ _ | refine blk_drew ?_ | refine blk_alloc ?_ _)); refine blk_far ?_ NB330_359.out _; (with_reducible repeat (first | refine blk_drewN ?_ _ | refine blk_drew ?_ | refine blk_alloc ?_ _)); exact BK330.out) hb); replace BK359 := Aside0.mk (blk_below (g := gb359) (o := .cells #[.slice Ao96 t353.length co96, .slice Ao102 t356.length co102] 26 (0, 0)) (by (with_reducible repeat (first | refine blk_drewN ?_ _ | refine blk_drew ?_ | refine blk_alloc ?_ _)); refine blk_put (cs := #[.slice Ao96 t353.length co96, .slice none 0 0]) ?_ 1 _ rfl; (with_reducible repeat (first | refine blk_drewN ?_ _ | refine blk_drew ?_ | refine blk_alloc ?_ _)); refine blk_put (cs := #[.slice none 0 0, .slice none 0 0]) ?_ 0 _ rfl; (with_reducible repeat (first | refine blk_drewN ?_ _ | refine blk_drew ?_ | refine blk_alloc ?_ _)); exact BK359.out) hb); replace HB := Aside0.mk (below_step (HBu HB.out) hb); (try clear hb); (try clear hb2); (try clear hk); (try clear hi); have hcz106_0 : w105.cell? ⟨gb330, 0, none⟩ = some (.slice Ao44 t324.length co44) := (blk_cell BK330.out 0).trans rfl; have hcz106_1 : w105.cell? ⟨gb330, 1, none⟩ = some (.slice Ao49 t327.length co49) := (blk_cell BK330.out 1).trans rfl; have hfz106_0 := blk_frozen BK330.out 0; have hfz106_1 := blk_frozen BK330.out 1) | ((with_reducible refine gate_callee (f := 15) rfl ?_); refine goesL_ (some 78) rfl rfl Try.func15 (by kernel_rfl) rfl #[.agg #[.slice Ao44 t344.length co44, .slice Ao49 t345.length co49], .int .i64 1] rfl (by (try simp only [List.map_toArray, List.map_cons, List.map_nil]); first | done | (rw [show t344.length = t324.length from (Kd.R_reads' HO_331000.out).1.symm, show t345.length = t327.length from (Kd.R_reads' HO_331001.out).1.symm] <;> rfl) | rfl | (simp only [List.length_drop, List.length_take]; rfl)) ?_; (with_reducible refine (laws_heldTensor.calls kj19 _ _ t344 _ _ t345 1 t361 _ ?side1 ?side2 ?side3 ?side4 A78.out).mono ?_); (case side1 => exact (Cu ((Kd.R_reads' HO_331000.out).2.2))); (case side2 => rw [show t344.length = t324.length from (Kd.R_reads' HO_331000.out).1.symm]; exact (Kd.R_reads' HO_331000.out).2.1); (case side3 => exact (Cu ((Kd.R_reads' HO_331001.out).2.2))); (case side4 => rw [show t345.length = t327.length from (Kd.R_reads' HO_331001.out).1.symm]; exact (Kd.R_reads' HO_331001.out).2.1); rintro e w107 ⟨rfl, hb⟩; refine ⟨_, rfl, ?_⟩; replace HO_317000 := Aside0.mk (Rb HO_317000.out hb); replace HO_317001 := Aside0.mk (Rb HO_317001.out hb); replace HO_324000 := Aside0.mk (Rb HO_324000.out hb); replace HO_324001 := Aside0.mk (Rb HO_324001.out hb); replace HO_331000 := Aside0.mk (Rb HO_331000.out hb); replace HO_331001 := Aside0.mk (Rb HO_331001.out hb); replace HO349 := Aside0.mk (Rb HO349.out hb); replace HO352 := Aside0.mk (Rb HO352.out hb); replace HO355 := Aside0.mk (Rb HO355.out hb); replace HO358 := Aside0.mk (Rb HO358.out hb); replace BK302 := Aside0.mk (Bb BK302.out hb); replace BK316 := Aside0.mk (Bb BK316.out hb); replace BK323 := Aside0.mk (Bb BK323.out hb); replace BK330 := Aside0.mk (Bb BK330.out hb); replace BK359 := Aside0.mk (Bb BK359.out hb); replace HB := Aside0.mk (below_step (HBu HB.out) hb); (try clear hb); (try clear hb2); (try clear hk); (try clear hi)))
            go_ret
            exact ⟨by first | rfl | (simp [errW_none, errW_some] <;> rfl) | (simp [*, errW_none, errW_some] <;> rfl), HBu HB.out⟩
           ·rw [if_neg c80] at H
            have c80b0 : (t361 == t343) = false := beq_eq_false_iff_ne.mpr c80
            have c80b1 : (t361 != t343) = true := bne_iff_ne.mpr c80
            rw [HRT.out] at H
            exact absurd H (by simp)
         ·replace c77 := Bool.eq_false_iff.mpr c77
          subst c77
          have H1 : (some false) = some r := by rw [if_neg (show ¬ (false = true) by decide)] at H; exact H
          clear H
          have H := H1
          clear H1
          rw [HRT.out] at H
          exact absurd H (by simp)
        ·rw [if_neg c73] at H
         have c73b0 : (t346 == t343) = false := beq_eq_false_iff_ne.mpr c73
         have c73b1 : (t346 != t343) = true := bne_iff_ne.mpr c73
         rw [HRT.out] at H
         exact absurd H (by simp)
   ·replace c18 := Bool.eq_false_iff.mpr c18
    subst c18
    have H1 : (some false) = some r := by rw [if_neg (show ¬ (false = true) by decide)] at H; exact H
    clear H
    have H := H1
    clear H1
    rw [HRT.out] at H
    exact absurd H (by simp)
  ·replace c15 := Bool.eq_false_iff.mpr c15
   subst c15
   have H1 : (some false) = some r := by rw [if_neg (show ¬ (false = true) by decide)] at H; exact H
   clear H
   have H := H1
   clear H1
   rw [HRT.out] at H
   exact absurd H (by simp)

end Go.Proofs.Ytcpemdedmepfeab.PFnExactFold
