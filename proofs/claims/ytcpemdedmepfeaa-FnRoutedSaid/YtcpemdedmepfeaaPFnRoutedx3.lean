-- Printed out of the translation, hand-written contracts beside it; checked by the kernel alone.
import Derived.Test.YtcpemdedmepfeaaPFnRoutedx0
import Derived.Test.YtcpemdedmepfeaaPFnRoutedx1
import Derived.Test.YtcpemdedmepfeaaPFnRoutedx2
namespace Go.Proofs.Ytcpemdedmepfeaa.PFnRouted
open Go.RowKit Go.Proofs.YtcpemdedmepfeaaW.PrintWords Go.Proofs.YtcpemdedmepfeaaW.PrintLast Go.Proofs.YtcpemdedmepfeaaW.PrintMore
attribute [local go_sem] max2_int min2_int max_two min_two max_three min_three max_four min_four   -- for this text's walks alone
set_option linter.unusedVariables false
set_option linter.unusedSimpArgs false
theorem Ω1_3 : type_of% @Kd.R_alloc := @Kd.R_alloc
theorem Ω2_3 : type_of% @Kd.R_drewN := @Kd.R_drewN
theorem Ω3_3 : type_of% @Kd.R_drew := @Kd.R_drew
theorem Ω5_3 : type_of% @Aside0.mk := @Aside0.mk
theorem Ω6_3 : type_of% @below_alloc := @below_alloc
theorem Ω7_3 : type_of% @pw_below_drewN := @pw_below_drewN
theorem Ω8_3 : type_of% @below_drew1 := @below_drew1
theorem Ω9_3 : type_of% @below_set := @below_set
theorem ΩA_3 : type_of% @blk_drewN := @blk_drewN
theorem ΩB_3 : type_of% @blk_alloc := @blk_alloc
theorem ΩC_3 : type_of% @blk_drew := @blk_drew
theorem ΩE_3 : type_of% @Kd.R_mono := @Kd.R_mono

/-! ### spec_l4DrawOf: function 52 -/
def spec_l4DrawOf.l0 : Nat → Int → List Int → Int → Int → List Int → List Int → Option (List Int × List Int × Int × Int)
 | 0, _, _, _, _, _, _ => none
 | k + 1, x6, x1000, x1001, x1002, x212000, x212001 => if x6 < (x212001.length : Int) then ((spec_l1Below.f x1000 x1001 x1002 7).bind fun bt212 => (if 0 ≤ x6 then ((some (x212001.set (x6 : Int).toNat bt212.1 : List Int)).bind fun y215 => ((spec_l1Once.f x1000 bt212.2.1 bt212.2.2 3).bind fun bt216 => (if bt216.1 = true then ((spec_l1Num.f k x1000 bt216.2.1 bt216.2.2).bind fun bt219 => (spec_l4DrawOf.l0 k (wrap64 (x6 + 1)) x1000 bt219.2.1 bt219.2.2 x212000 (y215.set (x6 : Int).toNat bt219.1))) else (spec_l4DrawOf.l0 k (wrap64 (x6 + 1)) x1000 bt216.2.1 bt216.2.2 x212000 y215)))) else (none))) else (some (x212000, x212001, x1001, x1002))
def spec_l4DrawOf.f (k : Nat) (s0_0 : List Int) (s0_1 : Int) (s0_2 : Int) (l1 : List Int) : Option (List Int × List Int × Int × Int) := (spec_l4New.f k l1).bind fun bt205 => (spec_l4DrawOf.l0 k 0 s0_0 s0_1 s0_2 bt205.1 bt205.2)
theorem spec_l4DrawOf.mono_l : ∀ k, (∀ y0 y1 y2 y3 y4 y5, LeO (spec_l4DrawOf.l0 k y0 y1 y2 y3 y4 y5) (spec_l4DrawOf.l0 (k + 1) y0 y1 y2 y3 y4 y5))
 | 0 => fun _ _ _ _ _ _ r h => by simp [spec_l4DrawOf.l0] at h
 | k + 1 => by
  have ih0 := spec_l4DrawOf.mono_l k
  ·intro y0 y1 y2 y3 y4 y5
   unfold spec_l4DrawOf.l0
   repeat' first
   | (with_reducible exact ih0 _ _ _ _ _ _)
   | (with_reducible exact spec_l1Num.mono _ _ _ _)
   | (with_reducible exact spec_l4New.mono _ _)
   | (with_reducible exact LeO.refl _)
   | (with_reducible exact LeO.none _)
   | (with_reducible refine LeO.ite ?_ ?_)
   | (with_reducible refine LeO.bind ?_ (fun _ => ?_))
   | exact ih0 _ _ _ _ _ _
   | exact spec_l1Num.mono _ _ _ _
   | exact spec_l4New.mono _ _
   | exact LeO.none _
   | refine LeO.ite ?_ ?_
   | refine LeO.bind ?_ (fun _ => ?_)
theorem spec_l4DrawOf.mono : ∀ a0 a1 a2 a3 k, LeO (spec_l4DrawOf.f k a0 a1 a2 a3) (spec_l4DrawOf.f (k + 1) a0 a1 a2 a3) := by
 intro a0 a1 a2 a3 k
 have ih0 := spec_l4DrawOf.mono_l k
 unfold spec_l4DrawOf.f
 repeat' first
   | (with_reducible exact ih0 _ _ _ _ _ _)
   | (with_reducible exact spec_l1Num.mono _ _ _ _)
   | (with_reducible exact spec_l4New.mono _ _)
   | (with_reducible exact LeO.refl _)
   | (with_reducible exact LeO.none _)
   | (with_reducible refine LeO.ite ?_ ?_)
   | (with_reducible refine LeO.bind ?_ (fun _ => ?_))
   | exact ih0 _ _ _ _ _ _
   | exact spec_l1Num.mono _ _ _ _
   | exact spec_l4New.mono _ _
   | exact LeO.none _
   | refine LeO.ite ?_ ?_
   | refine LeO.bind ?_ (fun _ => ?_)
set_option maxHeartbeats 8000000 in
set_option maxRecDepth 100000 in
theorem spec_l4DrawOf.calls (k : Nat) (g : Nat) (s0_0 : List Int) (s0_1 : Int) (s0_2 : Int) (A1 : Option Addr) (c1 : Nat) (l1 : List Int) (r1 : List Int) (r2 : List Int) (r3 : Int) (r4 : Int) (w0 w : World) (hI : IsS92 w0 w g s0_0 s0_1 s0_2) (hB : Below w0.heap.size w0 w) (hr1 : Kd.C (Kd.int .i64) w A1 l1.length l1) (hc1 : l1.length ≤ c1) (hf1 : ∀ ad, A1 = some ad → 0 < l1.length → ad.block ≠ g) (h : spec_l4DrawOf.f k s0_0 s0_1 s0_2 l1 = some (r1, r2, r3, r4)) :
  Calls Try.prog 52 #[.pointer (some ⟨g, 0, none⟩), .slice A1 l1.length c1] w fun e w' => ∃ v0_ v1_ : Value, e = .returned (.agg #[v0_, v1_]) ∧ Kd.R (Kd.int .i64) 3 w' w.heap.size (fun k_ => some k_ ≠ (v1_ : Value).ownBlock) v0_ r1 ∧ Kd.R (Kd.int .i64) 3 w' w.heap.size (fun k_ => some k_ ≠ (v0_ : Value).ownBlock) v1_ r2 ∧ IsS92 w0 w' g s0_0 r3 r4 ∧ Below w0.heap.size w0 w' ∧ KeepBut w w' g none := by
 have hu39 := Try.underlying39
 have HR1 := Ω5_3 hr1
 have HC1 := Ω5_3 hc1
 clear hr1 hc1
 have HI0 := Ω5_3 hI
 have HK := Ω5_3 (KeepBut.refl w g none)
 have HL := Ω5_3 hB.size
 clear hI
 have HW0 := Ω5_3 hB.size
 have HB := Ω5_3 hB
 clear hB
 have H : ((spec_l4New.f k l1).bind fun bt205 => (spec_l4DrawOf.l0 k 0 s0_0 s0_1 s0_2 bt205.1 bt205.2)) = some (r1, r2, r3, r4) := h
 clear h
 replace H := Option.bind_eq_some_iff.mp H
 obtain ⟨⟨t205, t208⟩, A30, H⟩ := H
 try dsimp only at H
 have A3 := Ω5_3 A30
 clear A30
 have H' := Ω5_3 H
 clear H
 go_enter Try.func52, Try.ntmps52
 go_wp2_with (first | ((with_reducible refine gate_dst (N := 4) rfl ?_); refine box_event ?hg (N := 4) ?hd (cs := #[.slice none 0 0, .slice none 0 0]) (t := 39) ?hr ?_; (case hd => rfl); (case hg => rfl); (case hr => first | (go_simp; done) | (go_simp; rfl)); intro gb204 hg w4 hbox hb; have n0_ := Ω5_3 (IsS92.below (by repeat (first | (with_reducible first | exact HI0.out | apply IsS92.alloc | apply IsS92.drewN | apply IsS92.drew | apply IsS92.set_1 | apply IsS92.set_2) | exact HI0.out)) hb); have n1_ := Ω5_3 (KeepBut.trans (by repeat (first | (with_reducible first | exact HK.out | apply KeepBut.set_ | apply keep_drewN | apply keep_drew | apply keep_alloc) | exact HK.out)) (KeepBut.of_below hb g none) (.inl rfl)); have n2_ := Ω5_3 (below_step (by repeat (first | (with_reducible first | exact HB.out | apply Ω6_3 | apply Ω7_3 | apply Ω8_3 | refine Ω9_3 ?_ (IsS92.ge HI0.out)) | exact HB.out)) hb); have n3_ := Ω5_3 (hbox); have n4_ := Ω5_3 ((by rw [hg]; exact (keep_size (w := w) (g := g) (row := none) (by repeat (first | (with_reducible first | exact HK.out | apply KeepBut.set_ | apply keep_drewN | apply keep_drew | apply keep_alloc) | exact HK.out))) : w.heap.size ≤ gb204)); have n5_ := Ω5_3 ((Nat.le_trans HW0.out (by rw [hg]; exact (keep_size (w := w) (g := g) (row := none) (by repeat (first | (with_reducible first | exact HK.out | apply KeepBut.set_ | apply keep_drewN | apply keep_drew | apply keep_alloc) | exact HK.out))) : w.heap.size ≤ gb204) : w0.heap.size ≤ gb204)); have n6_ := Ω5_3 ((by rw [hg]; exact Nat.ne_of_lt (IsS92.lt (show IsS92 w0 _ g s0_0 s0_1 s0_2 from by repeat (first | (with_reducible first | exact HI0.out | apply IsS92.alloc | apply IsS92.drewN | apply IsS92.drew | apply IsS92.set_1 | apply IsS92.set_2) | exact HI0.out))) : g ≠ gb204)); have n7_ := Ω5_3 ((by rw [hg]; exact Nat.ne_of_gt (IsS92.lt (show IsS92 w0 _ g s0_0 s0_1 s0_2 from by repeat (first | (with_reducible first | exact HI0.out | apply IsS92.alloc | apply IsS92.drewN | apply IsS92.drew | apply IsS92.set_1 | apply IsS92.set_2) | exact HI0.out))) : gb204 ≠ g)); clear HI0; clear HK; clear HB; have HI0 := n0_; have HK := n1_; have HB := n2_; have BK204 := n3_; have GW204 := n4_; have GE204 := n5_; have NB0_204 := n6_; have NB204_0 := n7_; clear n0_ n1_ n2_ n3_ n4_ n5_ n6_ n7_; clear hb hbox hg) | ((with_reducible refine gate_callee (f := 71) rfl ?_); refine goesL_ (some 8) rfl rfl Try.func71 (by kernel_rfl) rfl #[.slice A1 l1.length c1] rfl (by (try simp only [List.map_toArray, List.map_cons, List.map_nil]); first | done | rfl | (simp only [List.length_drop, List.length_take]; rfl)) ?_; (with_reducible refine (spec_l4New.calls k _ _ l1 t205 t208 _ ?side1 ?side2 A3.out).mono ?_); (case side1 => exact Kd.C_keep 0 HR1.out (by repeat (first | (with_reducible first | exact HK.out | apply KeepBut.set_ | apply keep_drewN | apply keep_drew | apply keep_alloc | refine keep_far ?_ GW204.out _) | exact HK.out)) hf1); (case side2 => exact HC1.out); rintro e w5 ⟨v206, v209, rfl, ho0, ho1, hb⟩; refine ⟨_, rfl, ?_⟩; have n0_ := Ω5_3 (Kd.R_lower ho0 (keep_size (w := w) (g := g) (row := none) (by repeat (first | (with_reducible first | exact HK.out | apply KeepBut.set_ | apply keep_drewN | apply keep_drew | apply keep_alloc | refine keep_far ?_ GW204.out _) | exact HK.out)))); have n1_ := Ω5_3 (Kd.R_lower ho1 (keep_size (w := w) (g := g) (row := none) (by repeat (first | (with_reducible first | exact HK.out | apply KeepBut.set_ | apply keep_drewN | apply keep_drew | apply keep_alloc | refine keep_far ?_ GW204.out _) | exact HK.out)))); have n2_ := Ω5_3 (IsS92.below (by repeat (first | (with_reducible first | exact HI0.out | apply IsS92.alloc | apply IsS92.drewN | apply IsS92.drew | apply IsS92.set_1 | apply IsS92.set_2 | refine IsS92.far ?_ NB0_204.out _) | exact HI0.out)) hb); have n3_ := Ω5_3 (blk_below (g := gb204) (o := .cells #[.slice none 0 0, .slice none 0 0] 39 (0, 0)) (by (with_reducible repeat (first | refine ΩA_3 ?_ _ | refine ΩC_3 ?_ | refine ΩB_3 ?_ _)); exact BK204.out) hb); have n4_ := Ω5_3 (KeepBut.trans (by repeat (first | (with_reducible first | exact HK.out | apply KeepBut.set_ | apply keep_drewN | apply keep_drew | apply keep_alloc | refine keep_far ?_ GW204.out _) | exact HK.out)) (KeepBut.of_below hb g none) (.inl rfl)); have n5_ := Ω5_3 (below_step (by repeat (first | (with_reducible first | exact HB.out | apply Ω6_3 | apply Ω7_3 | apply Ω8_3 | refine Ω9_3 ?_ (IsS92.ge HI0.out) | refine Ω9_3 ?_ GE204.out) | exact HB.out)) hb); clear HI0; clear BK204; clear HK; clear HB; have HO207 := n0_; have HO210 := n1_; have HI0 := n2_; have BK204 := n3_; have HK := n4_; have HB := n5_; clear n0_ n1_ n2_ n3_ n4_ n5_; (try clear hb); (try clear hb2); (try clear hk); (try clear hi); (try clear ho0); (try clear ho1)) | ((with_reducible refine gate_dst (N := 5) rfl ?_); refine box_event ?hg (N := 5) ?hd (cs := #[.slice none 0 0, .slice none 0 0]) (t := 39) ?hr ?_; (case hd => rfl); (case hg => rfl); (case hr => first | (go_simp; done) | (go_simp; rfl)); intro gb211 hg w6 hbox hb; have n0_ := Ω5_3 (Kd.R_below (by (with_reducible repeat (first | apply Ω1_3 | apply Ω2_3 | apply Ω3_3)); exact HO207.out) hb); have n1_ := Ω5_3 (Kd.R_below (by (with_reducible repeat (first | apply Ω1_3 | apply Ω2_3 | apply Ω3_3)); exact HO210.out) hb); have n2_ := Ω5_3 (IsS92.below (by repeat (first | (with_reducible first | exact HI0.out | apply IsS92.alloc | apply IsS92.drewN | apply IsS92.drew | apply IsS92.set_1 | apply IsS92.set_2 | refine IsS92.far ?_ NB0_204.out _) | exact HI0.out)) hb); have n3_ := Ω5_3 (blk_below (g := gb204) (o := .cells #[.slice none 0 0, .slice none 0 0] 39 (0, 0)) (by (with_reducible repeat (first | refine ΩA_3 ?_ _ | refine ΩC_3 ?_ | refine ΩB_3 ?_ _)); exact BK204.out) hb); have n4_ := Ω5_3 (KeepBut.trans (by repeat (first | (with_reducible first | exact HK.out | apply KeepBut.set_ | apply keep_drewN | apply keep_drew | apply keep_alloc | refine keep_far ?_ GW204.out _) | exact HK.out)) (KeepBut.of_below hb g none) (.inl rfl)); have n5_ := Ω5_3 (below_step (by repeat (first | (with_reducible first | exact HB.out | apply Ω6_3 | apply Ω7_3 | apply Ω8_3 | refine Ω9_3 ?_ (IsS92.ge HI0.out) | refine Ω9_3 ?_ GE204.out) | exact HB.out)) hb); have n6_ := Ω5_3 (hbox); have n7_ := Ω5_3 ((by rw [hg]; exact (keep_size (w := w) (g := g) (row := none) (by repeat (first | (with_reducible first | exact HK.out | apply KeepBut.set_ | apply keep_drewN | apply keep_drew | apply keep_alloc | refine keep_far ?_ GW204.out _) | exact HK.out))) : w.heap.size ≤ gb211)); have n8_ := Ω5_3 ((Nat.le_trans HW0.out (by rw [hg]; exact (keep_size (w := w) (g := g) (row := none) (by repeat (first | (with_reducible first | exact HK.out | apply KeepBut.set_ | apply keep_drewN | apply keep_drew | apply keep_alloc | refine keep_far ?_ GW204.out _) | exact HK.out))) : w.heap.size ≤ gb211) : w0.heap.size ≤ gb211)); have n9_ := Ω5_3 ((by rw [hg]; exact Nat.ne_of_lt (blk_lt (g := gb204) (o := .cells #[.slice none 0 0, .slice none 0 0] 39 (0, 0)) (by (with_reducible repeat (first | refine ΩA_3 ?_ _ | refine ΩC_3 ?_ | refine ΩB_3 ?_ _)); exact BK204.out)) : gb204 ≠ gb211)); have n10_ := Ω5_3 ((by rw [hg]; exact Nat.ne_of_gt (blk_lt (g := gb204) (o := .cells #[.slice none 0 0, .slice none 0 0] 39 (0, 0)) (by (with_reducible repeat (first | refine ΩA_3 ?_ _ | refine ΩC_3 ?_ | refine ΩB_3 ?_ _)); exact BK204.out)) : gb211 ≠ gb204)); have n11_ := Ω5_3 ((by rw [hg]; exact Nat.ne_of_lt (IsS92.lt (show IsS92 w0 _ g s0_0 s0_1 s0_2 from by repeat (first | (with_reducible first | exact HI0.out | apply IsS92.alloc | apply IsS92.drewN | apply IsS92.drew | apply IsS92.set_1 | apply IsS92.set_2 | refine IsS92.far ?_ NB0_204.out _) | exact HI0.out))) : g ≠ gb211)); have n12_ := Ω5_3 ((by rw [hg]; exact Nat.ne_of_gt (IsS92.lt (show IsS92 w0 _ g s0_0 s0_1 s0_2 from by repeat (first | (with_reducible first | exact HI0.out | apply IsS92.alloc | apply IsS92.drewN | apply IsS92.drew | apply IsS92.set_1 | apply IsS92.set_2 | refine IsS92.far ?_ NB0_204.out _) | exact HI0.out))) : gb211 ≠ g)); clear HO207; clear HO210; clear HI0; clear BK204; clear HK; clear HB; have HO207 := n0_; have HO210 := n1_; have HI0 := n2_; have BK204 := n3_; have HK := n4_; have HB := n5_; have BK211 := n6_; have GW211 := n7_; have GE211 := n8_; have NB204_211 := n9_; have NB211_204 := n10_; have NB0_211 := n11_; have NB211_0 := n12_; clear n0_ n1_ n2_ n3_ n4_ n5_ n6_ n7_ n8_ n9_ n10_ n11_ n12_; clear hb hbox hg; obtain ⟨Ao7, co7, eo7⟩ := Kd.R_slice HO207.out; subst eo7; have hnb8 := NB211_204.out; have hnc8 := NB204_211.out; have hnb9 := NB211_0.out; have hnc9 := NB0_211.out; have hcz10_0 : w6.cell? ⟨gb211, 0, none⟩ = some (.slice none 0 0) := (blk_cell BK211.out 0).trans rfl; have hcz10_1 : w6.cell? ⟨gb211, 1, none⟩ = some (.slice none 0 0) := (blk_cell BK211.out 1).trans rfl; have hfz10_0 := blk_frozen BK211.out 0; have hfz10_1 := blk_frozen BK211.out 1; obtain ⟨Ao11, co11, eo11⟩ := Kd.R_slice HO210.out; subst eo11))
 go_loopg [6] k (fun kq v6 w' => ∃ (x6_1 : Int) (x1001_1 : Int) (x1002_1 : Int) (x212000_1 : List Int) (x212001_1 : List Int) (u212000 : Value) (u212001 : Value), v6 = .int .i64 x6_1 ∧ Aside0 (spec_l4DrawOf.l0 kq x6_1 s0_0 x1001_1 x1002_1 x212000_1 x212001_1 = some (r1, r2, r3, r4)) ∧ Aside0 (kq ≤ k) ∧ Aside0 (Kd.R (Kd.int .i64) 3 w' w.heap.size (fun k_ => some k_ ≠ (u212001 : Value).ownBlock) u212000 x212000_1) ∧ Aside0 (Kd.R (Kd.int .i64) 3 w' w.heap.size (fun k_ => some k_ ≠ (u212000 : Value).ownBlock) u212001 x212001_1) ∧ Aside0 (w'.heap[gb204]? = some (.cells #[(.slice none 0 0), (.slice none 0 0)] 39 (0, 0))) ∧ Aside0 (w'.heap[gb211]? = some (.cells #[u212000, u212001] 39 (0, 0))) ∧ Aside0 (IsS92 w0 w' g s0_0 x1001_1 x1002_1) ∧ Aside0 (KeepBut w w' g none) ∧ Aside0 (Below w0.heap.size w0 w'))
 case atStart => exact ⟨(0), (s0_1), (s0_2), (t205), (t208), (.slice Ao7 t205.length co7), (.slice Ao11 t208.length co11), (by first | rfl | (simp; done) | (simp [*]; done)), H', ⟨Nat.le_refl _⟩, ⟨by (with_reducible repeat (first | apply Ω1_3 | apply Ω2_3 | apply Ω3_3)); exact ΩE_3 (Kd.R_far (p := ⟨gb211, 1, none⟩) (Kd.R_far (p := ⟨gb211, 0, none⟩) (Kd.R_types HO207.out BK211.out (by decide)) (fun _ hk => hk.2) (.slice Ao7 t205.length co7)) (fun _ hk => hk.2) (.slice Ao11 t208.length co11)) (fun _ hk => hk.1)⟩, ⟨by (with_reducible repeat (first | apply Ω1_3 | apply Ω2_3 | apply Ω3_3)); exact ΩE_3 (Kd.R_far (p := ⟨gb211, 1, none⟩) (Kd.R_far (p := ⟨gb211, 0, none⟩) (Kd.R_types HO210.out BK211.out (by decide)) (fun _ hk => hk.2) (.slice Ao7 t205.length co7)) (fun _ hk => hk.2) (.slice Ao11 t208.length co11)) (fun _ hk => hk.1)⟩, ⟨by (with_reducible repeat (first | refine ΩA_3 ?_ _ | refine ΩC_3 ?_ | refine ΩB_3 ?_ _)); refine blk_far ?_ NB204_211.out _; (with_reducible repeat (first | refine ΩA_3 ?_ _ | refine ΩC_3 ?_ | refine ΩB_3 ?_ _)); refine blk_far ?_ NB204_211.out _; (with_reducible repeat (first | refine ΩA_3 ?_ _ | refine ΩC_3 ?_ | refine ΩB_3 ?_ _)); exact BK204.out⟩, ⟨by (with_reducible repeat (first | refine ΩA_3 ?_ _ | refine ΩC_3 ?_ | refine ΩB_3 ?_ _)); refine blk_put (cs := #[.slice Ao7 t205.length co7, .slice none 0 0]) ?_ 1 _ rfl; (with_reducible repeat (first | refine ΩA_3 ?_ _ | refine ΩC_3 ?_ | refine ΩB_3 ?_ _)); refine blk_put (cs := #[.slice none 0 0, .slice none 0 0]) ?_ 0 _ rfl; (with_reducible repeat (first | refine ΩA_3 ?_ _ | refine ΩC_3 ?_ | refine ΩB_3 ?_ _)); exact BK211.out⟩, ⟨by repeat (first | (with_reducible first | exact HI0.out | apply IsS92.alloc | apply IsS92.drewN | apply IsS92.drew | apply IsS92.set_1 | apply IsS92.set_2 | refine IsS92.far ?_ NB0_204.out _ | refine IsS92.far ?_ NB0_211.out _) | exact HI0.out)⟩, ⟨by repeat (first | (with_reducible first | exact HK.out | apply KeepBut.set_ | apply keep_drewN | apply keep_drew | apply keep_alloc | refine keep_far ?_ GW204.out _ | refine keep_far ?_ GW211.out _) | exact HK.out)⟩, ⟨by repeat (first | (with_reducible first | exact HB.out | apply Ω6_3 | apply Ω7_3 | apply Ω8_3 | refine Ω9_3 ?_ (IsS92.ge HI0.out) | refine Ω9_3 ?_ GE204.out | refine Ω9_3 ?_ GE211.out) | exact HB.out)⟩⟩
 case round =>
  clear H'
  try clear c1
  try clear p2
  try clear c5
  try clear c7
  try clear c8
  try clear c9
  try clear hcz10_0
  try clear hcz10_1
  try clear hfz10_0
  try clear hfz10_1
  obtain ⟨x6_1, x1001_1, x1002_1, x212000_1, x212001_1, u212000, u212001, rfl, HA, HK1, HO_212000, HO_212001, BK204, BK211, HI0, HK, HB⟩ := hrel
  cases gk with
  | zero => exact absurd HA.out (by simp [spec_l4DrawOf.l0])
  | succ k1 =>
   have H := HA.out
   clear HA
   simp only [spec_l4DrawOf.l0] at H
   by_cases c12 : x6_1 < (x212001_1.length : Int)
   ·rw [if_pos c12] at H
    have c12b0 : decide (x6_1 < (x212001_1.length : Int)) = true := decide_eq_true c12
    clear c12
    replace H := Option.bind_eq_some_iff.mp H
    obtain ⟨⟨t212, t213, t214⟩, A130, H⟩ := H
    try dsimp only at H
    have A13 := Ω5_3 A130
    clear A130
    by_cases c14 : 0 ≤ x6_1
    ·rw [if_pos c14] at H
     have c14b0 : decide (0 ≤ x6_1) = true := decide_eq_true c14
     clear c14
     obtain ⟨y215, hy215⟩ : ∃ y_ : List Int, y_ = (x212001_1.set (x6_1 : Int).toNat t212) := ⟨_, rfl⟩
     replace H : ((spec_l1Once.f s0_0 t213 t214 3).bind fun bt216 => (if bt216.1 = true then ((spec_l1Num.f k1 s0_0 bt216.2.1 bt216.2.2).bind fun bt219 => (spec_l4DrawOf.l0 k1 (wrap64 (x6_1 + 1)) s0_0 bt219.2.1 bt219.2.2 x212000_1 (y215.set (x6_1 : Int).toNat bt219.1))) else (spec_l4DrawOf.l0 k1 (wrap64 (x6_1 + 1)) s0_0 bt216.2.1 bt216.2.2 x212000_1 y215))) = some (r1, r2, r3, r4) := by first | (rw [hy215]; with_reducible exact H) | (have H2_ := (Option.bind_some _ _).symm.trans H; rw [hy215]; with_reducible exact H2_) | (have H2_ := (Option.bind_some _ _).symm.trans H; with_reducible exact H2_) | with_reducible exact H | (rw [hy215]; exact H) | exact H
     have Ny215 := Ω5_3 hy215
     clear hy215
     replace H := Option.bind_eq_some_iff.mp H
     obtain ⟨⟨t216, t217, t218⟩, A160, H⟩ := H
     try dsimp only at H
     have A16 := Ω5_3 A160
     clear A160
     by_cases c17 : t216 = true
     ·subst c17
      have H1 : ((spec_l1Num.f k1 s0_0 t217 t218).bind fun bt219 => (spec_l4DrawOf.l0 k1 (wrap64 (x6_1 + 1)) s0_0 bt219.2.1 bt219.2.2 x212000_1 (y215.set (x6_1 : Int).toNat bt219.1))) = some (r1, r2, r3, r4) := by rw [if_pos rfl] at H; exact H
      clear H
      have H := H1
      clear H1
      replace H := Option.bind_eq_some_iff.mp H
      obtain ⟨⟨t219, t220, t221⟩, A180, H⟩ := H
      try dsimp only at H
      have A18 := Ω5_3 A180
      clear A180
      obtain ⟨y222, hy222⟩ : ∃ y_ : List Int, y_ = (y215.set (x6_1 : Int).toNat t219) := ⟨_, rfl⟩
      replace H : (spec_l4DrawOf.l0 k1 (wrap64 (x6_1 + 1)) s0_0 t220 t221 x212000_1 y222) = some (r1, r2, r3, r4) := by first | (rw [hy222]; with_reducible exact H) | (have H2_ := (Option.bind_some _ _).symm.trans H; rw [hy222]; with_reducible exact H2_) | (have H2_ := (Option.bind_some _ _).symm.trans H; with_reducible exact H2_) | with_reducible exact H | (rw [hy222]; exact H) | exact H
      have Ny222 := Ω5_3 hy222
      clear hy222
      have H' := Ω5_3 H
      clear H
      have hnb20 := NB211_204.out
      have hnc20 := NB204_211.out
      have hnb21 := NB211_0.out
      have hnc21 := NB0_211.out
      have hcz22_0 : wr.cell? ⟨gb211, 0, none⟩ = some (u212000) := (blk_cell BK211.out 0).trans rfl
      have hcz22_1 : wr.cell? ⟨gb211, 1, none⟩ = some (u212001) := (blk_cell BK211.out 1).trans rfl
      have hfz22_0 := blk_frozen BK211.out 0
      have hfz22_1 := blk_frozen BK211.out 1
      obtain ⟨Ao23, co23, eo23⟩ := Kd.R_slice HO_212001.out
      subst eo23
      try go_wp2
      have n0_ := Ω5_3 (Ω3_3 HO_212000.out)
      have n1_ := Ω5_3 (Ω3_3 HO_212001.out)
      have n2_ := Ω5_3 (ΩC_3 BK204.out)
      have n3_ := Ω5_3 (ΩC_3 BK211.out)
      have n4_ := Ω5_3 (IsS92.drew HI0.out)
      have n5_ := Ω5_3 (keep_drew HK.out)
      have n6_ := Ω5_3 (Ω8_3 HB.out)
      clear HO_212000
      clear HO_212001
      clear BK204
      clear BK211
      clear HI0
      clear HK
      clear HB
      have HO_212000 := n0_
      have HO_212001 := n1_
      have BK204 := n2_
      have BK211 := n3_
      have HI0 := n4_
      have HK := n5_
      have HB := n6_
      clear n0_ n1_ n2_ n3_ n4_ n5_ n6_
      refine start_ (n := 7) (S := fun w' => w'.cell? ⟨gb211, 0, none⟩ = some (u212000) ∧ w'.cell? ⟨gb211, 1, none⟩ = some (.slice Ao23 x212001_1.length co23)) (ds := [6]) #[false, false, false, false, false, false, false] (by kernel_rfl) rfl rfl ⟨(blk_cell BK211.out 0).trans rfl, (blk_cell BK211.out 1).trans rfl⟩ (fun hHeld => ?_)
      generalize wr.drew = w24 at HO_212000 HO_212001 BK204 BK211 HI0 HK HB hHeld ⊢
      refine pure_ (i := 0) (N := some 16) (v := ?_) (a' := ?_) #[true, false, false, false, false, false, false] rfl rfl (by kernel_rfl) (fun _ _ _ h => h) (Or.inl ⟨by rfl, ?_⟩) ?_ ?_
      rotate_left
      ·intro w'
       go_simp
       with_reducible rfl
      rotate_left
      ·simp only [Act.put, List.setIfInBounds_toArray, List.set_cons_zero, List.set_cons_succ, i64_w, i32_w]
       rfl
      refine pure_ (i := 2) (N := some 18) (v := ?_) (a' := ?_) #[true, false, true, false, false, false, false] rfl rfl (by kernel_rfl) (fun _ _ _ h => h) (Or.inl ⟨by rfl, ?_⟩) ?_ ?_
      rotate_left
      ·intro w'
       go_simp
       with_reducible rfl
      rotate_left
      ·simp only [Act.put, List.setIfInBounds_toArray, List.set_cons_zero, List.set_cons_succ, i64_w, i32_w]
       rfl
      refine pure_ (i := 3) (N := some 19) (v := ?_) (a' := ?_) #[true, false, true, true, false, false, false] rfl rfl (by kernel_rfl) (fun _ _ _ h => h) (Or.inl ⟨by rfl, ?_⟩) ?_ ?_
      rotate_left
      ·intro w'
       go_simp
       with_reducible rfl
      rotate_left
      ·simp only [Act.put, List.setIfInBounds_toArray, List.set_cons_zero, List.set_cons_succ, i64_w, i32_w]
       rfl
      refine take_ (i := 1) (N := some 17) (v := ?_) (a' := ?_) #[true, true, true, true, false, false, false] rfl rfl (by kernel_rfl) (fun _ _ _ h => h) (Or.inl ⟨by rfl, ?_⟩) hHeld ?_ ?_
      rotate_left
      ·rintro w' ⟨s0, s1⟩
       go_simp
       with_reducible rfl
      rotate_left
      ·simp only [Act.put, List.setIfInBounds_toArray, List.set_cons_zero, List.set_cons_succ, i64_w, i32_w]
       rfl
      refine one_ (i := 4) (N := some 20) #[true, true, true, true, true, false, false] rfl rfl (by kernel_rfl) (by decide) (fun K hK => ?_)
      refine goes_ Try.func53 (by kernel_rfl) rfl #[.pointer (some ⟨g, 0, none⟩), .int .i64 7] (by rfl) rfl rfl (by (try simp only [List.map_toArray, List.map_cons, List.map_nil]); first | done | rfl | (simp only [List.length_drop, List.length_take]; rfl)) ?_
      with_reducible refine (spec_l1Below.calls g s0_0 x1001_1 x1002_1 7 t212 t213 t214 w0 _ ?side1 ?side2 A13.out).mono ?_
      (case side1 => repeat (first | (with_reducible first | exact HI0.out | apply IsS92.alloc | apply IsS92.drewN | apply IsS92.drew | apply IsS92.set_1 | apply IsS92.set_2 | refine IsS92.far ?_ NB0_204.out _ | refine IsS92.far ?_ NB0_211.out _) | exact HI0.out))
      (case side2 => repeat (first | (with_reducible first | exact HB.out | apply Ω6_3 | apply Ω7_3 | apply Ω8_3 | refine Ω9_3 ?_ (IsS92.ge HI0.out) | refine Ω9_3 ?_ GE204.out | refine Ω9_3 ?_ GE211.out) | exact HB.out))
      rintro e w25 ⟨rfl, hi, hb, hk⟩
      refine ⟨_, rfl, ?_⟩
      have n0_ := Ω5_3 (ΩE_3 (Kd.R_keep (IsS92.apart (show IsS92 w0 _ g s0_0 x1001_1 x1002_1 from by repeat (first | (with_reducible first | exact HI0.out | apply IsS92.alloc | apply IsS92.drewN | apply IsS92.drew | apply IsS92.set_1 | apply IsS92.set_2 | refine IsS92.far ?_ NB0_204.out _ | refine IsS92.far ?_ NB0_211.out _) | exact HI0.out)) (by (with_reducible repeat (first | apply Ω1_3 | apply Ω2_3 | apply Ω3_3)); exact HO_212000.out) (by decide)) hk (fun _ h => h.2)) (fun _ h => h.1))
      have n1_ := Ω5_3 (ΩE_3 (Kd.R_keep (IsS92.apart (show IsS92 w0 _ g s0_0 x1001_1 x1002_1 from by repeat (first | (with_reducible first | exact HI0.out | apply IsS92.alloc | apply IsS92.drewN | apply IsS92.drew | apply IsS92.set_1 | apply IsS92.set_2 | refine IsS92.far ?_ NB0_204.out _ | refine IsS92.far ?_ NB0_211.out _) | exact HI0.out)) (by (with_reducible repeat (first | apply Ω1_3 | apply Ω2_3 | apply Ω3_3)); exact HO_212001.out) (by decide)) hk (fun _ h => h.2)) (fun _ h => h.1))
      have n2_ := Ω5_3 (KeepBut.blk hk (g' := gb204) (o := .cells #[.slice none 0 0, .slice none 0 0] 39 (0, 0)) (by (with_reducible repeat (first | refine ΩA_3 ?_ _ | refine ΩC_3 ?_ | refine ΩB_3 ?_ _)); exact BK204.out) NB204_0.out (by simp))
      have n3_ := Ω5_3 (KeepBut.blk hk (g' := gb211) (o := .cells #[u212000, .slice Ao23 x212001_1.length co23] 39 (0, 0)) (by (with_reducible repeat (first | refine ΩA_3 ?_ _ | refine ΩC_3 ?_ | refine ΩB_3 ?_ _)); exact BK211.out) NB211_0.out (by simp))
      have n4_ := Ω5_3 (KeepBut.trans (by repeat (first | (with_reducible first | exact HK.out | apply KeepBut.set_ | apply keep_drewN | apply keep_drew | apply keep_alloc | refine keep_far ?_ GW204.out _ | refine keep_far ?_ GW211.out _) | exact HK.out)) hk (.inl rfl))
      have n5_ := Ω5_3 (hb)
      have n6_ := Ω5_3 (hi)
      clear HO_212000
      clear HO_212001
      clear BK204
      clear BK211
      clear HK
      clear HB
      clear HI0
      have HO_212000 := n0_
      have HO_212001 := n1_
      have BK204 := n2_
      have BK211 := n3_
      have HK := n4_
      have HB := n5_
      have HI0 := n6_
      clear n0_ n1_ n2_ n3_ n4_ n5_ n6_
      (try clear hb)
      (try clear hb2)
      (try clear hk)
      (try clear hi)
      have p15 : 0 ≤ (x6_1 : Int) := of_decide_eq_true (by first | (with_reducible assumption) | assumption)
      have q15 : (x6_1 : Int) < ((x212001_1.length : Int) : Int) := of_decide_eq_true (by first | (with_reducible assumption) | assumption)
      obtain ⟨go15, co15, eo15, gb15, gl15, cl15, HG15⟩ := Kd.R_form HO_212001.out (by omega)
      (first | cases eo15 | (injection eo15 with ea_ en_ ec_; (first | subst ea_ | (injection ea_ with ea_; subst ea_)); subst ec_; clear en_))
      have GB15 := Ω5_3 gb15
      have GG15 := Ω5_3 HG15
      clear gb15 gl15 HG15
      obtain ⟨hx15_0, hf15_0⟩ := Kd.R_celln 0 HO_212001.out (x6_1 : Int) p15 q15
      replace p15 := eq_true p15
      replace q15 := eq_true q15
      have HN0_go15 := Ω5_3 (show g ≠ go15 from by have h_ := IsS92.own_ne HI0.out HO_212001.out (by decide); intro e_; exact h_ (by rw [e_]; rfl))
      have HP26 := Kd.R_putn HO_212001.out (x6_1 : Int) t212
      rw [← Ny215.out] at HP26
      have HQ26 := Ω5_3 HP26
      clear HP26
      refine hK.out _ _ ⟨(blk_cell BK211.out 0).trans rfl, (blk_cell BK211.out 1).trans rfl⟩ (fun hHeld => ?_)
      clear hK K
      refine norm_ (a' := ?_) ?_ ?_
      rotate_left
      ·show Act.put _ (some 20) _ = _
       simp only [Act.put, List.setIfInBounds_toArray, List.set_cons_zero, List.set_cons_succ, i64_w, i32_w]
       rfl
      refine pure_ (i := 5) (N := some 21) (v := ?_) (a' := ?_) #[true, true, true, true, true, true, false] rfl rfl (by kernel_rfl) (fun _ _ _ h => h) (Or.inl ⟨by rfl, ?_⟩) ?_ ?_
      rotate_left
      ·intro w'
       go_simp
       with_reducible rfl
      rotate_left
      ·simp only [Act.put, List.setIfInBounds_toArray, List.set_cons_zero, List.set_cons_succ, i64_w, i32_w]
       rfl
      refine last_ (i := 6) (N := none) #[true, true, true, true, true, true, true] rfl rfl (by kernel_rfl) (by decide) (fun K hK => ?_)
      refine skip_ (w1 := ?_) (by rfl) rfl ?_ ?_
      rotate_left
      ·go_simp
       rfl
      refine hK.out _ _ ?_
      clear hK K
      refine done_ (by kernel_rfl) ?_
      try go_wp2_with (first | ((with_reducible refine gate_callee (f := 54) rfl ?_); refine goesL_ (some 23) rfl rfl Try.func54 (by kernel_rfl) rfl #[.pointer (some ⟨g, 0, none⟩), .int .i64 3] rfl (by (try simp only [List.map_toArray, List.map_cons, List.map_nil]); first | done | rfl | (simp only [List.length_drop, List.length_take]; rfl)) ?_; (with_reducible refine (spec_l1Once.calls g s0_0 t213 t214 3 true t217 t218 w0 _ ?side1 ?side2 A16.out).mono ?_); (case side1 => repeat (first | (with_reducible first | exact HI0.out | apply IsS92.alloc | apply IsS92.drewN | apply IsS92.drew | apply IsS92.set_1 | apply IsS92.set_2 | refine IsS92.far ?_ HN0_go15.out _ | refine IsS92.far ?_ NB0_204.out _ | refine IsS92.far ?_ NB0_211.out _) | exact HI0.out)); (case side2 => repeat (first | (with_reducible first | exact HB.out | apply Ω6_3 | apply Ω7_3 | apply Ω8_3 | refine Ω9_3 ?_ (Nat.le_trans HL.out GB15.out) | refine Ω9_3 ?_ (IsS92.ge HI0.out) | refine Ω9_3 ?_ GE204.out | refine Ω9_3 ?_ GE211.out) | exact HB.out)); rintro e w27 ⟨rfl, hi, hb, hk⟩; refine ⟨_, rfl, ?_⟩; have n0_ := Ω5_3 (ΩE_3 (Kd.R_keep (IsS92.apart (show IsS92 w0 _ g s0_0 t213 t214 from by repeat (first | (with_reducible first | exact HI0.out | apply IsS92.alloc | apply IsS92.drewN | apply IsS92.drew | apply IsS92.set_1 | apply IsS92.set_2 | refine IsS92.far ?_ HN0_go15.out _ | refine IsS92.far ?_ NB0_204.out _ | refine IsS92.far ?_ NB0_211.out _) | exact HI0.out)) (by (with_reducible repeat (first | apply Ω1_3 | apply Ω2_3 | apply Ω3_3)); exact (ΩE_3 (Kd.R_far (p := ⟨go15, (x6_1 : Int).toNat, none⟩) (ΩE_3 HO_212000.out (fun k_ hk => (⟨hk, fun e_ => hk (by rw [e_]; rfl)⟩ : _ ∧ k_ ≠ go15))) (fun _ hk => hk.2) (.int .i64 t212)) (fun _ h_ => h_.1))) (by decide)) hk (fun _ h => h.2)) (fun _ h => h.1)); have n1_ := Ω5_3 (ΩE_3 (Kd.R_keep (IsS92.apart (show IsS92 w0 _ g s0_0 t213 t214 from by repeat (first | (with_reducible first | exact HI0.out | apply IsS92.alloc | apply IsS92.drewN | apply IsS92.drew | apply IsS92.set_1 | apply IsS92.set_2 | refine IsS92.far ?_ HN0_go15.out _ | refine IsS92.far ?_ NB0_204.out _ | refine IsS92.far ?_ NB0_211.out _) | exact HI0.out)) (by (with_reducible repeat (first | apply Ω1_3 | apply Ω2_3 | apply Ω3_3)); exact HQ26.out) (by decide)) hk (fun _ h => h.2)) (fun _ h => h.1)); have n2_ := Ω5_3 (KeepBut.blk hk (g' := gb204) (o := .cells #[.slice none 0 0, .slice none 0 0] 39 (0, 0)) (by (with_reducible repeat (first | refine ΩA_3 ?_ _ | refine ΩC_3 ?_ | refine ΩB_3 ?_ _)); refine blk_far ?_ (by have h_ := Kd.R_ne HO_212001.out BK204.out (by decide); intro e_; exact h_ (by rw [e_]; rfl)) _; (with_reducible repeat (first | refine ΩA_3 ?_ _ | refine ΩC_3 ?_ | refine ΩB_3 ?_ _)); exact BK204.out) NB204_0.out (by simp)); have n3_ := Ω5_3 (KeepBut.blk hk (g' := gb211) (o := .cells #[u212000, .slice (some ⟨go15, 0, none⟩) x212001_1.length co23] 39 (0, 0)) (by (with_reducible repeat (first | refine ΩA_3 ?_ _ | refine ΩC_3 ?_ | refine ΩB_3 ?_ _)); refine blk_far ?_ (by have h_ := Kd.R_ne HO_212001.out BK211.out (by decide); intro e_; exact h_ (by rw [e_]; rfl)) _; (with_reducible repeat (first | refine ΩA_3 ?_ _ | refine ΩC_3 ?_ | refine ΩB_3 ?_ _)); exact BK211.out) NB211_0.out (by simp)); have n4_ := Ω5_3 (KeepBut.trans (by repeat (first | (with_reducible first | exact HK.out | apply KeepBut.set_ | apply keep_drewN | apply keep_drew | apply keep_alloc | refine keep_far ?_ GB15.out _ | refine keep_far ?_ GW204.out _ | refine keep_far ?_ GW211.out _) | exact HK.out)) hk (.inl rfl)); have n5_ := Ω5_3 (hb); have n6_ := Ω5_3 (hi); clear HO_212000; clear HO_212001; clear BK204; clear BK211; clear HK; clear HB; clear HI0; have HO_212000 := n0_; have HO_212001 := n1_; have BK204 := n2_; have BK211 := n3_; have HK := n4_; have HB := n5_; have HI0 := n6_; clear n0_ n1_ n2_ n3_ n4_ n5_ n6_; (try clear hb); (try clear hb2); (try clear hk); (try clear hi)))
      have n0_ := Ω5_3 (Ω3_3 HO_212000.out)
      have n1_ := Ω5_3 (Ω3_3 HO_212001.out)
      have n2_ := Ω5_3 (ΩC_3 BK204.out)
      have n3_ := Ω5_3 (ΩC_3 BK211.out)
      have n4_ := Ω5_3 (IsS92.drew HI0.out)
      have n5_ := Ω5_3 (keep_drew HK.out)
      have n6_ := Ω5_3 (Ω8_3 HB.out)
      clear HO_212000
      clear HO_212001
      clear BK204
      clear BK211
      clear HI0
      clear HK
      clear HB
      have HO_212000 := n0_
      have HO_212001 := n1_
      have BK204 := n2_
      have BK211 := n3_
      have HI0 := n4_
      have HK := n5_
      have HB := n6_
      clear n0_ n1_ n2_ n3_ n4_ n5_ n6_
      refine start_ (n := 7) (S := fun w' => w'.cell? ⟨gb211, 0, none⟩ = some (u212000) ∧ w'.cell? ⟨gb211, 1, none⟩ = some (.slice (some ⟨go15, 0, none⟩) x212001_1.length co23)) (ds := [6]) #[false, false, false, false, false, false, false] (by kernel_rfl) rfl rfl ⟨(blk_cell BK211.out 0).trans rfl, (blk_cell BK211.out 1).trans rfl⟩ (fun hHeld => ?_)
      generalize w27.drew = w28 at HO_212000 HO_212001 BK204 BK211 HI0 HK HB hHeld ⊢
      refine pure_ (i := 0) (N := some 24) (v := ?_) (a' := ?_) #[true, false, false, false, false, false, false] rfl rfl (by kernel_rfl) (fun _ _ _ h => h) (Or.inl ⟨by rfl, ?_⟩) ?_ ?_
      rotate_left
      ·intro w'
       go_simp
       with_reducible rfl
      rotate_left
      ·simp only [Act.put, List.setIfInBounds_toArray, List.set_cons_zero, List.set_cons_succ, i64_w, i32_w]
       rfl
      refine pure_ (i := 2) (N := some 26) (v := ?_) (a' := ?_) #[true, false, true, false, false, false, false] rfl rfl (by kernel_rfl) (fun _ _ _ h => h) (Or.inl ⟨by rfl, ?_⟩) ?_ ?_
      rotate_left
      ·intro w'
       go_simp
       with_reducible rfl
      rotate_left
      ·simp only [Act.put, List.setIfInBounds_toArray, List.set_cons_zero, List.set_cons_succ, i64_w, i32_w]
       rfl
      refine pure_ (i := 3) (N := some 27) (v := ?_) (a' := ?_) #[true, false, true, true, false, false, false] rfl rfl (by kernel_rfl) (fun _ _ _ h => h) (Or.inl ⟨by rfl, ?_⟩) ?_ ?_
      rotate_left
      ·intro w'
       go_simp
       with_reducible rfl
      rotate_left
      ·simp only [Act.put, List.setIfInBounds_toArray, List.set_cons_zero, List.set_cons_succ, i64_w, i32_w]
       rfl
      refine take_ (i := 1) (N := some 25) (v := ?_) (a' := ?_) #[true, true, true, true, false, false, false] rfl rfl (by kernel_rfl) (fun _ _ _ h => h) (Or.inl ⟨by rfl, ?_⟩) hHeld ?_ ?_
      rotate_left
      ·rintro w' ⟨s0, s1⟩
       go_simp
       with_reducible rfl
      rotate_left
      ·simp only [Act.put, List.setIfInBounds_toArray, List.set_cons_zero, List.set_cons_succ, i64_w, i32_w]
       rfl
      refine one_ (i := 4) (N := some 28) #[true, true, true, true, true, false, false] rfl rfl (by kernel_rfl) (by decide) (fun K hK => ?_)
      refine goes_ Try.func81 (by kernel_rfl) rfl #[.pointer (some ⟨g, 0, none⟩)] (by rfl) rfl rfl (by (try simp only [List.map_toArray, List.map_cons, List.map_nil]); first | done | rfl | (simp only [List.length_drop, List.length_take]; rfl)) ?_
      with_reducible refine (spec_l1Num.calls k1 g s0_0 t217 t218 t219 t220 t221 w0 _ ?side1 ?side2 A18.out).mono ?_
      (case side1 => repeat (first | (with_reducible first | exact HI0.out | apply IsS92.alloc | apply IsS92.drewN | apply IsS92.drew | apply IsS92.set_1 | apply IsS92.set_2 | refine IsS92.far ?_ NB0_204.out _ | refine IsS92.far ?_ NB0_211.out _) | exact HI0.out))
      (case side2 => repeat (first | (with_reducible first | exact HB.out | apply Ω6_3 | apply Ω7_3 | apply Ω8_3 | refine Ω9_3 ?_ (IsS92.ge HI0.out) | refine Ω9_3 ?_ GE204.out | refine Ω9_3 ?_ GE211.out) | exact HB.out))
      rintro e w29 ⟨rfl, hi, hb, hk⟩
      refine ⟨_, rfl, ?_⟩
      have n0_ := Ω5_3 (ΩE_3 (Kd.R_keep (IsS92.apart (show IsS92 w0 _ g s0_0 t217 t218 from by repeat (first | (with_reducible first | exact HI0.out | apply IsS92.alloc | apply IsS92.drewN | apply IsS92.drew | apply IsS92.set_1 | apply IsS92.set_2 | refine IsS92.far ?_ NB0_204.out _ | refine IsS92.far ?_ NB0_211.out _) | exact HI0.out)) (by (with_reducible repeat (first | apply Ω1_3 | apply Ω2_3 | apply Ω3_3)); exact HO_212000.out) (by decide)) hk (fun _ h => h.2)) (fun _ h => h.1))
      have n1_ := Ω5_3 (ΩE_3 (Kd.R_keep (IsS92.apart (show IsS92 w0 _ g s0_0 t217 t218 from by repeat (first | (with_reducible first | exact HI0.out | apply IsS92.alloc | apply IsS92.drewN | apply IsS92.drew | apply IsS92.set_1 | apply IsS92.set_2 | refine IsS92.far ?_ NB0_204.out _ | refine IsS92.far ?_ NB0_211.out _) | exact HI0.out)) (by (with_reducible repeat (first | apply Ω1_3 | apply Ω2_3 | apply Ω3_3)); exact HO_212001.out) (by decide)) hk (fun _ h => h.2)) (fun _ h => h.1))
      have n2_ := Ω5_3 (KeepBut.blk hk (g' := gb204) (o := .cells #[.slice none 0 0, .slice none 0 0] 39 (0, 0)) (by (with_reducible repeat (first | refine ΩA_3 ?_ _ | refine ΩC_3 ?_ | refine ΩB_3 ?_ _)); exact BK204.out) NB204_0.out (by simp))
      have n3_ := Ω5_3 (KeepBut.blk hk (g' := gb211) (o := .cells #[u212000, .slice (some ⟨go15, 0, none⟩) x212001_1.length co23] 39 (0, 0)) (by (with_reducible repeat (first | refine ΩA_3 ?_ _ | refine ΩC_3 ?_ | refine ΩB_3 ?_ _)); exact BK211.out) NB211_0.out (by simp))
      have n4_ := Ω5_3 (KeepBut.trans (by repeat (first | (with_reducible first | exact HK.out | apply KeepBut.set_ | apply keep_drewN | apply keep_drew | apply keep_alloc | refine keep_far ?_ GW204.out _ | refine keep_far ?_ GW211.out _) | exact HK.out)) hk (.inl rfl))
      have n5_ := Ω5_3 (hb)
      have n6_ := Ω5_3 (hi)
      clear HO_212000
      clear HO_212001
      clear BK204
      clear BK211
      clear HK
      clear HB
      clear HI0
      have HO_212000 := n0_
      have HO_212001 := n1_
      have BK204 := n2_
      have BK211 := n3_
      have HK := n4_
      have HB := n5_
      have HI0 := n6_
      clear n0_ n1_ n2_ n3_ n4_ n5_ n6_
      (try clear hb)
      (try clear hb2)
      (try clear hk)
      (try clear hi)
      have p19 : 0 ≤ (x6_1 : Int) := of_decide_eq_true (by first | (with_reducible assumption) | assumption)
      have q19 : (x6_1 : Int) < ((x212001_1.length : Int) : Int) := of_decide_eq_true (by first | (with_reducible assumption) | assumption)
      obtain ⟨hx19_0, hf19_0⟩ := Kd.R_celln 0 HO_212001.out (x6_1 : Int) p19 q19
      replace p19 := eq_true p19
      replace q19 := eq_true q19
      have HN0_go15 := Ω5_3 (show g ≠ go15 from by have h_ := IsS92.own_ne HI0.out HO_212001.out (by decide); intro e_; exact h_ (by rw [e_]; rfl))
      have HP30 := Kd.R_putn HO_212001.out (x6_1 : Int) t219
      rw [← Ny222.out] at HP30
      have HQ30 := Ω5_3 HP30
      clear HP30
      refine hK.out _ _ ⟨(blk_cell BK211.out 0).trans rfl, (blk_cell BK211.out 1).trans rfl⟩ (fun hHeld => ?_)
      clear hK K
      refine norm_ (a' := ?_) ?_ ?_
      rotate_left
      ·show Act.put _ (some 28) _ = _
       simp only [Act.put, List.setIfInBounds_toArray, List.set_cons_zero, List.set_cons_succ, i64_w, i32_w]
       rfl
      refine pure_ (i := 5) (N := some 29) (v := ?_) (a' := ?_) #[true, true, true, true, true, true, false] rfl rfl (by kernel_rfl) (fun _ _ _ h => h) (Or.inl ⟨by rfl, ?_⟩) ?_ ?_
      rotate_left
      ·intro w'
       go_simp
       with_reducible rfl
      rotate_left
      ·simp only [Act.put, List.setIfInBounds_toArray, List.set_cons_zero, List.set_cons_succ, i64_w, i32_w]
       rfl
      refine last_ (i := 6) (N := none) #[true, true, true, true, true, true, true] rfl rfl (by kernel_rfl) (by decide) (fun K hK => ?_)
      refine skip_ (w1 := ?_) (by rfl) rfl ?_ ?_
      rotate_left
      ·go_simp
       rfl
      refine hK.out _ _ ?_
      clear hK K
      refine done_ (by kernel_rfl) ?_
      try go_wp2
      go_roundg k1
      case measure => have := HK1.out; omega
      case rel => exact ⟨(wrap64 (x6_1 + 1)), (t220), (t221), (x212000_1), (y222), (u212000), (.slice (some ⟨go15, 0, none⟩) x212001_1.length co23), (by first | rfl | (simp; done) | (simp [*]; done)), H', ⟨by have := HK1.out; omega⟩, ⟨by (with_reducible repeat (first | apply Ω1_3 | apply Ω2_3 | apply Ω3_3)); exact ΩE_3 (Kd.R_far (p := ⟨go15, (x6_1 : Int).toNat, none⟩) (ΩE_3 HO_212000.out (fun k_ hk => (⟨hk, fun e_ => hk (by rw [e_]; rfl)⟩ : _ ∧ k_ ≠ go15))) (fun _ hk => hk.2) (.int .i64 t219)) (fun _ hk => hk.1)⟩, ⟨by (with_reducible repeat (first | apply Ω1_3 | apply Ω2_3 | apply Ω3_3)); exact HQ30.out⟩, ⟨by (with_reducible repeat (first | refine ΩA_3 ?_ _ | refine ΩC_3 ?_ | refine ΩB_3 ?_ _)); refine blk_far ?_ (by have h_ := Kd.R_ne HO_212001.out BK204.out (by decide); intro e_; exact h_ (by rw [e_]; rfl)) _; (with_reducible repeat (first | refine ΩA_3 ?_ _ | refine ΩC_3 ?_ | refine ΩB_3 ?_ _)); exact BK204.out⟩, ⟨by (with_reducible repeat (first | refine ΩA_3 ?_ _ | refine ΩC_3 ?_ | refine ΩB_3 ?_ _)); refine blk_far ?_ (by have h_ := Kd.R_ne HO_212001.out BK211.out (by decide); intro e_; exact h_ (by rw [e_]; rfl)) _; (with_reducible repeat (first | refine ΩA_3 ?_ _ | refine ΩC_3 ?_ | refine ΩB_3 ?_ _)); exact BK211.out⟩, ⟨by repeat (first | (with_reducible first | exact HI0.out | apply IsS92.alloc | apply IsS92.drewN | apply IsS92.drew | apply IsS92.set_1 | apply IsS92.set_2 | refine IsS92.far ?_ HN0_go15.out _ | refine IsS92.far ?_ NB0_204.out _ | refine IsS92.far ?_ NB0_211.out _) | exact HI0.out)⟩, ⟨by repeat (first | (with_reducible first | exact HK.out | apply KeepBut.set_ | apply keep_drewN | apply keep_drew | apply keep_alloc | refine keep_far ?_ GB15.out _ | refine keep_far ?_ GW204.out _ | refine keep_far ?_ GW211.out _) | exact HK.out)⟩, ⟨by repeat (first | (with_reducible first | exact HB.out | apply Ω6_3 | apply Ω7_3 | apply Ω8_3 | refine Ω9_3 ?_ (Nat.le_trans HL.out GB15.out) | refine Ω9_3 ?_ (IsS92.ge HI0.out) | refine Ω9_3 ?_ GE204.out | refine Ω9_3 ?_ GE211.out) | exact HB.out)⟩⟩
     ·replace c17 := Bool.eq_false_iff.mpr c17
      subst c17
      have H1 : (spec_l4DrawOf.l0 k1 (wrap64 (x6_1 + 1)) s0_0 t217 t218 x212000_1 y215) = some (r1, r2, r3, r4) := by rw [if_neg (show ¬ (false = true) by decide)] at H; exact H
      clear H
      have H := H1
      clear H1
      have H' := Ω5_3 H
      clear H
      have hnb31 := NB211_204.out
      have hnc31 := NB204_211.out
      have hnb32 := NB211_0.out
      have hnc32 := NB0_211.out
      have hcz33_0 : wr.cell? ⟨gb211, 0, none⟩ = some (u212000) := (blk_cell BK211.out 0).trans rfl
      have hcz33_1 : wr.cell? ⟨gb211, 1, none⟩ = some (u212001) := (blk_cell BK211.out 1).trans rfl
      have hfz33_0 := blk_frozen BK211.out 0
      have hfz33_1 := blk_frozen BK211.out 1
      obtain ⟨Ao34, co34, eo34⟩ := Kd.R_slice HO_212001.out
      subst eo34
      try go_wp2
      have n0_ := Ω5_3 (Ω3_3 HO_212000.out)
      have n1_ := Ω5_3 (Ω3_3 HO_212001.out)
      have n2_ := Ω5_3 (ΩC_3 BK204.out)
      have n3_ := Ω5_3 (ΩC_3 BK211.out)
      have n4_ := Ω5_3 (IsS92.drew HI0.out)
      have n5_ := Ω5_3 (keep_drew HK.out)
      have n6_ := Ω5_3 (Ω8_3 HB.out)
      clear HO_212000
      clear HO_212001
      clear BK204
      clear BK211
      clear HI0
      clear HK
      clear HB
      have HO_212000 := n0_
      have HO_212001 := n1_
      have BK204 := n2_
      have BK211 := n3_
      have HI0 := n4_
      have HK := n5_
      have HB := n6_
      clear n0_ n1_ n2_ n3_ n4_ n5_ n6_
      refine start_ (n := 7) (S := fun w' => w'.cell? ⟨gb211, 0, none⟩ = some (u212000) ∧ w'.cell? ⟨gb211, 1, none⟩ = some (.slice Ao34 x212001_1.length co34)) (ds := [6]) #[false, false, false, false, false, false, false] (by kernel_rfl) rfl rfl ⟨(blk_cell BK211.out 0).trans rfl, (blk_cell BK211.out 1).trans rfl⟩ (fun hHeld => ?_)
      generalize wr.drew = w35 at HO_212000 HO_212001 BK204 BK211 HI0 HK HB hHeld ⊢
      refine pure_ (i := 0) (N := some 16) (v := ?_) (a' := ?_) #[true, false, false, false, false, false, false] rfl rfl (by kernel_rfl) (fun _ _ _ h => h) (Or.inl ⟨by rfl, ?_⟩) ?_ ?_
      rotate_left
      ·intro w'
       go_simp
       with_reducible rfl
      rotate_left
      ·simp only [Act.put, List.setIfInBounds_toArray, List.set_cons_zero, List.set_cons_succ, i64_w, i32_w]
       rfl
      refine pure_ (i := 2) (N := some 18) (v := ?_) (a' := ?_) #[true, false, true, false, false, false, false] rfl rfl (by kernel_rfl) (fun _ _ _ h => h) (Or.inl ⟨by rfl, ?_⟩) ?_ ?_
      rotate_left
      ·intro w'
       go_simp
       with_reducible rfl
      rotate_left
      ·simp only [Act.put, List.setIfInBounds_toArray, List.set_cons_zero, List.set_cons_succ, i64_w, i32_w]
       rfl
      refine pure_ (i := 3) (N := some 19) (v := ?_) (a' := ?_) #[true, false, true, true, false, false, false] rfl rfl (by kernel_rfl) (fun _ _ _ h => h) (Or.inl ⟨by rfl, ?_⟩) ?_ ?_
      rotate_left
      ·intro w'
       go_simp
       with_reducible rfl
      rotate_left
      ·simp only [Act.put, List.setIfInBounds_toArray, List.set_cons_zero, List.set_cons_succ, i64_w, i32_w]
       rfl
      refine take_ (i := 1) (N := some 17) (v := ?_) (a' := ?_) #[true, true, true, true, false, false, false] rfl rfl (by kernel_rfl) (fun _ _ _ h => h) (Or.inl ⟨by rfl, ?_⟩) hHeld ?_ ?_
      rotate_left
      ·rintro w' ⟨s0, s1⟩
       go_simp
       with_reducible rfl
      rotate_left
      ·simp only [Act.put, List.setIfInBounds_toArray, List.set_cons_zero, List.set_cons_succ, i64_w, i32_w]
       rfl
      refine one_ (i := 4) (N := some 20) #[true, true, true, true, true, false, false] rfl rfl (by kernel_rfl) (by decide) (fun K hK => ?_)
      refine goes_ Try.func53 (by kernel_rfl) rfl #[.pointer (some ⟨g, 0, none⟩), .int .i64 7] (by rfl) rfl rfl (by (try simp only [List.map_toArray, List.map_cons, List.map_nil]); first | done | rfl | (simp only [List.length_drop, List.length_take]; rfl)) ?_
      with_reducible refine (spec_l1Below.calls g s0_0 x1001_1 x1002_1 7 t212 t213 t214 w0 _ ?side1 ?side2 A13.out).mono ?_
      (case side1 => repeat (first | (with_reducible first | exact HI0.out | apply IsS92.alloc | apply IsS92.drewN | apply IsS92.drew | apply IsS92.set_1 | apply IsS92.set_2 | refine IsS92.far ?_ NB0_204.out _ | refine IsS92.far ?_ NB0_211.out _) | exact HI0.out))
      (case side2 => repeat (first | (with_reducible first | exact HB.out | apply Ω6_3 | apply Ω7_3 | apply Ω8_3 | refine Ω9_3 ?_ (IsS92.ge HI0.out) | refine Ω9_3 ?_ GE204.out | refine Ω9_3 ?_ GE211.out) | exact HB.out))
      rintro e w36 ⟨rfl, hi, hb, hk⟩
      refine ⟨_, rfl, ?_⟩
      have n0_ := Ω5_3 (ΩE_3 (Kd.R_keep (IsS92.apart (show IsS92 w0 _ g s0_0 x1001_1 x1002_1 from by repeat (first | (with_reducible first | exact HI0.out | apply IsS92.alloc | apply IsS92.drewN | apply IsS92.drew | apply IsS92.set_1 | apply IsS92.set_2 | refine IsS92.far ?_ NB0_204.out _ | refine IsS92.far ?_ NB0_211.out _) | exact HI0.out)) (by (with_reducible repeat (first | apply Ω1_3 | apply Ω2_3 | apply Ω3_3)); exact HO_212000.out) (by decide)) hk (fun _ h => h.2)) (fun _ h => h.1))
      have n1_ := Ω5_3 (ΩE_3 (Kd.R_keep (IsS92.apart (show IsS92 w0 _ g s0_0 x1001_1 x1002_1 from by repeat (first | (with_reducible first | exact HI0.out | apply IsS92.alloc | apply IsS92.drewN | apply IsS92.drew | apply IsS92.set_1 | apply IsS92.set_2 | refine IsS92.far ?_ NB0_204.out _ | refine IsS92.far ?_ NB0_211.out _) | exact HI0.out)) (by (with_reducible repeat (first | apply Ω1_3 | apply Ω2_3 | apply Ω3_3)); exact HO_212001.out) (by decide)) hk (fun _ h => h.2)) (fun _ h => h.1))
      have n2_ := Ω5_3 (KeepBut.blk hk (g' := gb204) (o := .cells #[.slice none 0 0, .slice none 0 0] 39 (0, 0)) (by (with_reducible repeat (first | refine ΩA_3 ?_ _ | refine ΩC_3 ?_ | refine ΩB_3 ?_ _)); exact BK204.out) NB204_0.out (by simp))
      have n3_ := Ω5_3 (KeepBut.blk hk (g' := gb211) (o := .cells #[u212000, .slice Ao34 x212001_1.length co34] 39 (0, 0)) (by (with_reducible repeat (first | refine ΩA_3 ?_ _ | refine ΩC_3 ?_ | refine ΩB_3 ?_ _)); exact BK211.out) NB211_0.out (by simp))
      have n4_ := Ω5_3 (KeepBut.trans (by repeat (first | (with_reducible first | exact HK.out | apply KeepBut.set_ | apply keep_drewN | apply keep_drew | apply keep_alloc | refine keep_far ?_ GW204.out _ | refine keep_far ?_ GW211.out _) | exact HK.out)) hk (.inl rfl))
      have n5_ := Ω5_3 (hb)
      have n6_ := Ω5_3 (hi)
      clear HO_212000
      clear HO_212001
      clear BK204
      clear BK211
      clear HK
      clear HB
      clear HI0
      have HO_212000 := n0_
      have HO_212001 := n1_
      have BK204 := n2_
      have BK211 := n3_
      have HK := n4_
      have HB := n5_
      have HI0 := n6_
      clear n0_ n1_ n2_ n3_ n4_ n5_ n6_
      (try clear hb)
      (try clear hb2)
      (try clear hk)
      (try clear hi)
      have p15 : 0 ≤ (x6_1 : Int) := of_decide_eq_true (by first | (with_reducible assumption) | assumption)
      have q15 : (x6_1 : Int) < ((x212001_1.length : Int) : Int) := of_decide_eq_true (by first | (with_reducible assumption) | assumption)
      obtain ⟨go15, co15, eo15, gb15, gl15, cl15, HG15⟩ := Kd.R_form HO_212001.out (by omega)
      (first | cases eo15 | (injection eo15 with ea_ en_ ec_; (first | subst ea_ | (injection ea_ with ea_; subst ea_)); subst ec_; clear en_))
      have GB15 := Ω5_3 gb15
      have GG15 := Ω5_3 HG15
      clear gb15 gl15 HG15
      obtain ⟨hx15_0, hf15_0⟩ := Kd.R_celln 0 HO_212001.out (x6_1 : Int) p15 q15
      replace p15 := eq_true p15
      replace q15 := eq_true q15
      have HN0_go15 := Ω5_3 (show g ≠ go15 from by have h_ := IsS92.own_ne HI0.out HO_212001.out (by decide); intro e_; exact h_ (by rw [e_]; rfl))
      have HP37 := Kd.R_putn HO_212001.out (x6_1 : Int) t212
      rw [← Ny215.out] at HP37
      have HQ37 := Ω5_3 HP37
      clear HP37
      refine hK.out _ _ ⟨(blk_cell BK211.out 0).trans rfl, (blk_cell BK211.out 1).trans rfl⟩ (fun hHeld => ?_)
      clear hK K
      refine norm_ (a' := ?_) ?_ ?_
      rotate_left
      ·show Act.put _ (some 20) _ = _
       simp only [Act.put, List.setIfInBounds_toArray, List.set_cons_zero, List.set_cons_succ, i64_w, i32_w]
       rfl
      refine pure_ (i := 5) (N := some 21) (v := ?_) (a' := ?_) #[true, true, true, true, true, true, false] rfl rfl (by kernel_rfl) (fun _ _ _ h => h) (Or.inl ⟨by rfl, ?_⟩) ?_ ?_
      rotate_left
      ·intro w'
       go_simp
       with_reducible rfl
      rotate_left
      ·simp only [Act.put, List.setIfInBounds_toArray, List.set_cons_zero, List.set_cons_succ, i64_w, i32_w]
       rfl
      refine last_ (i := 6) (N := none) #[true, true, true, true, true, true, true] rfl rfl (by kernel_rfl) (by decide) (fun K hK => ?_)
      refine skip_ (w1 := ?_) (by rfl) rfl ?_ ?_
      rotate_left
      ·go_simp
       rfl
      refine hK.out _ _ ?_
      clear hK K
      refine done_ (by kernel_rfl) ?_
      try go_wp2_with (first | ((with_reducible refine gate_callee (f := 54) rfl ?_); refine goesL_ (some 23) rfl rfl Try.func54 (by kernel_rfl) rfl #[.pointer (some ⟨g, 0, none⟩), .int .i64 3] rfl (by (try simp only [List.map_toArray, List.map_cons, List.map_nil]); first | done | rfl | (simp only [List.length_drop, List.length_take]; rfl)) ?_; (with_reducible refine (spec_l1Once.calls g s0_0 t213 t214 3 false t217 t218 w0 _ ?side1 ?side2 A16.out).mono ?_); (case side1 => repeat (first | (with_reducible first | exact HI0.out | apply IsS92.alloc | apply IsS92.drewN | apply IsS92.drew | apply IsS92.set_1 | apply IsS92.set_2 | refine IsS92.far ?_ HN0_go15.out _ | refine IsS92.far ?_ NB0_204.out _ | refine IsS92.far ?_ NB0_211.out _) | exact HI0.out)); (case side2 => repeat (first | (with_reducible first | exact HB.out | apply Ω6_3 | apply Ω7_3 | apply Ω8_3 | refine Ω9_3 ?_ (Nat.le_trans HL.out GB15.out) | refine Ω9_3 ?_ (IsS92.ge HI0.out) | refine Ω9_3 ?_ GE204.out | refine Ω9_3 ?_ GE211.out) | exact HB.out)); rintro e w38 ⟨rfl, hi, hb, hk⟩; refine ⟨_, rfl, ?_⟩; have n0_ := Ω5_3 (ΩE_3 (Kd.R_keep (IsS92.apart (show IsS92 w0 _ g s0_0 t213 t214 from by repeat (first | (with_reducible first | exact HI0.out | apply IsS92.alloc | apply IsS92.drewN | apply IsS92.drew | apply IsS92.set_1 | apply IsS92.set_2 | refine IsS92.far ?_ HN0_go15.out _ | refine IsS92.far ?_ NB0_204.out _ | refine IsS92.far ?_ NB0_211.out _) | exact HI0.out)) (by (with_reducible repeat (first | apply Ω1_3 | apply Ω2_3 | apply Ω3_3)); exact (ΩE_3 (Kd.R_far (p := ⟨go15, (x6_1 : Int).toNat, none⟩) (ΩE_3 HO_212000.out (fun k_ hk => (⟨hk, fun e_ => hk (by rw [e_]; rfl)⟩ : _ ∧ k_ ≠ go15))) (fun _ hk => hk.2) (.int .i64 t212)) (fun _ h_ => h_.1))) (by decide)) hk (fun _ h => h.2)) (fun _ h => h.1)); have n1_ := Ω5_3 (ΩE_3 (Kd.R_keep (IsS92.apart (show IsS92 w0 _ g s0_0 t213 t214 from by repeat (first | (with_reducible first | exact HI0.out | apply IsS92.alloc | apply IsS92.drewN | apply IsS92.drew | apply IsS92.set_1 | apply IsS92.set_2 | refine IsS92.far ?_ HN0_go15.out _ | refine IsS92.far ?_ NB0_204.out _ | refine IsS92.far ?_ NB0_211.out _) | exact HI0.out)) (by (with_reducible repeat (first | apply Ω1_3 | apply Ω2_3 | apply Ω3_3)); exact HQ37.out) (by decide)) hk (fun _ h => h.2)) (fun _ h => h.1)); have n2_ := Ω5_3 (KeepBut.blk hk (g' := gb204) (o := .cells #[.slice none 0 0, .slice none 0 0] 39 (0, 0)) (by (with_reducible repeat (first | refine ΩA_3 ?_ _ | refine ΩC_3 ?_ | refine ΩB_3 ?_ _)); refine blk_far ?_ (by have h_ := Kd.R_ne HO_212001.out BK204.out (by decide); intro e_; exact h_ (by rw [e_]; rfl)) _; (with_reducible repeat (first | refine ΩA_3 ?_ _ | refine ΩC_3 ?_ | refine ΩB_3 ?_ _)); exact BK204.out) NB204_0.out (by simp)); have n3_ := Ω5_3 (KeepBut.blk hk (g' := gb211) (o := .cells #[u212000, .slice (some ⟨go15, 0, none⟩) x212001_1.length co34] 39 (0, 0)) (by (with_reducible repeat (first | refine ΩA_3 ?_ _ | refine ΩC_3 ?_ | refine ΩB_3 ?_ _)); refine blk_far ?_ (by have h_ := Kd.R_ne HO_212001.out BK211.out (by decide); intro e_; exact h_ (by rw [e_]; rfl)) _; (with_reducible repeat (first | refine ΩA_3 ?_ _ | refine ΩC_3 ?_ | refine ΩB_3 ?_ _)); exact BK211.out) NB211_0.out (by simp)); have n4_ := Ω5_3 (KeepBut.trans (by repeat (first | (with_reducible first | exact HK.out | apply KeepBut.set_ | apply keep_drewN | apply keep_drew | apply keep_alloc | refine keep_far ?_ GB15.out _ | refine keep_far ?_ GW204.out _ | refine keep_far ?_ GW211.out _) | exact HK.out)) hk (.inl rfl)); have n5_ := Ω5_3 (hb); have n6_ := Ω5_3 (hi); clear HO_212000; clear HO_212001; clear BK204; clear BK211; clear HK; clear HB; clear HI0; have HO_212000 := n0_; have HO_212001 := n1_; have BK204 := n2_; have BK211 := n3_; have HK := n4_; have HB := n5_; have HI0 := n6_; clear n0_ n1_ n2_ n3_ n4_ n5_ n6_; (try clear hb); (try clear hb2); (try clear hk); (try clear hi)))
      go_roundg k1
      case measure => have := HK1.out; omega
      case rel => exact ⟨(wrap64 (x6_1 + 1)), (t217), (t218), (x212000_1), (y215), (u212000), (.slice (some ⟨go15, 0, none⟩) x212001_1.length co34), (by first | rfl | (simp; done) | (simp [*]; done)), H', ⟨by have := HK1.out; omega⟩, ⟨by (with_reducible repeat (first | apply Ω1_3 | apply Ω2_3 | apply Ω3_3)); exact HO_212000.out⟩, ⟨by (with_reducible repeat (first | apply Ω1_3 | apply Ω2_3 | apply Ω3_3)); exact HO_212001.out⟩, ⟨by (with_reducible repeat (first | refine ΩA_3 ?_ _ | refine ΩC_3 ?_ | refine ΩB_3 ?_ _)); exact BK204.out⟩, ⟨by (with_reducible repeat (first | refine ΩA_3 ?_ _ | refine ΩC_3 ?_ | refine ΩB_3 ?_ _)); exact BK211.out⟩, ⟨by repeat (first | (with_reducible first | exact HI0.out | apply IsS92.alloc | apply IsS92.drewN | apply IsS92.drew | apply IsS92.set_1 | apply IsS92.set_2 | refine IsS92.far ?_ NB0_204.out _ | refine IsS92.far ?_ NB0_211.out _) | exact HI0.out)⟩, ⟨by repeat (first | (with_reducible first | exact HK.out | apply KeepBut.set_ | apply keep_drewN | apply keep_drew | apply keep_alloc | refine keep_far ?_ GW204.out _ | refine keep_far ?_ GW211.out _) | exact HK.out)⟩, ⟨by repeat (first | (with_reducible first | exact HB.out | apply Ω6_3 | apply Ω7_3 | apply Ω8_3 | refine Ω9_3 ?_ (IsS92.ge HI0.out) | refine Ω9_3 ?_ GE204.out | refine Ω9_3 ?_ GE211.out) | exact HB.out)⟩⟩
    ·rw [if_neg c14] at H
     exact absurd H (by simp)
   ·rw [if_neg c12] at H
    have c12b0 : decide (x6_1 < (x212001_1.length : Int)) = false := decide_eq_false c12
    clear c12
    simp only [Option.some.injEq, Prod.mk.injEq] at H
    obtain ⟨rfl, rfl, rfl, rfl⟩ := H
    have hnb39 := NB211_204.out
    have hnc39 := NB204_211.out
    have hnb40 := NB211_0.out
    have hnc40 := NB0_211.out
    have hcz41_0 : wr.cell? ⟨gb211, 0, none⟩ = some (u212000) := (blk_cell BK211.out 0).trans rfl
    have hcz41_1 : wr.cell? ⟨gb211, 1, none⟩ = some (u212001) := (blk_cell BK211.out 1).trans rfl
    have hfz41_0 := blk_frozen BK211.out 0
    have hfz41_1 := blk_frozen BK211.out 1
    obtain ⟨Ao42, co42, eo42⟩ := Kd.R_slice HO_212001.out
    subst eo42
    obtain ⟨Ao43, co43, eo43⟩ := Kd.R_slice HO_212000.out
    subst eo43
    have hnb44 := NB204_0.out
    have hnc44 := NB0_204.out
    have hcz45_0 : wr.cell? ⟨gb204, 0, none⟩ = some (.slice none 0 0) := (blk_cell BK204.out 0).trans rfl
    have hcz45_1 : wr.cell? ⟨gb204, 1, none⟩ = some (.slice none 0 0) := (blk_cell BK204.out 1).trans rfl
    have hfz45_0 := blk_frozen BK204.out 0
    have hfz45_1 := blk_frozen BK204.out 1
    go_wp2
    refine bodyPost_ret (results_cell_row rfl _ _ gb204 39 #[.slice Ao43 x212000_1.length co43, .slice Ao42 x212001_1.length co42] (0, 0) _ rfl (by (with_reducible repeat (first | refine ΩA_3 ?_ _ | refine ΩC_3 ?_ | refine ΩB_3 ?_ _)); refine blk_put (cs := #[.slice Ao43 x212000_1.length co43, .slice none 0 0]) ?_ 1 _ rfl; (with_reducible repeat (first | refine ΩA_3 ?_ _ | refine ΩC_3 ?_ | refine ΩB_3 ?_ _)); refine blk_put (cs := #[.slice none 0 0, .slice none 0 0]) ?_ 0 _ rfl; (with_reducible repeat (first | refine ΩA_3 ?_ _ | refine ΩC_3 ?_ | refine ΩB_3 ?_ _)); exact BK204.out) Try.underlying39 rfl (by kernel_rfl)) rfl ?_
    exact ⟨_, _, by first | rfl | (simp [errW_none, errW_some] <;> rfl) | (simp [*, errW_none, errW_some] <;> rfl), by (with_reducible repeat (first | apply Ω1_3 | apply Ω2_3 | apply Ω3_3)); exact ΩE_3 (Kd.R_far (p := ⟨gb204, 1, none⟩) (Kd.R_far (p := ⟨gb204, 0, none⟩) (Kd.R_types HO_212000.out BK204.out (by decide)) (fun _ hk => hk.2) (.slice Ao43 x212000_1.length co43)) (fun _ hk => hk.2) (.slice Ao42 x212001_1.length co42)) (fun _ hk => hk.1), by (with_reducible repeat (first | apply Ω1_3 | apply Ω2_3 | apply Ω3_3)); exact ΩE_3 (Kd.R_far (p := ⟨gb204, 1, none⟩) (Kd.R_far (p := ⟨gb204, 0, none⟩) (Kd.R_types HO_212001.out BK204.out (by decide)) (fun _ hk => hk.2) (.slice Ao43 x212000_1.length co43)) (fun _ hk => hk.2) (.slice Ao42 x212001_1.length co42)) (fun _ hk => hk.1), by repeat (first | (with_reducible first | exact HI0.out | apply IsS92.alloc | apply IsS92.drewN | apply IsS92.drew | apply IsS92.set_1 | apply IsS92.set_2 | refine IsS92.far ?_ NB0_204.out _ | refine IsS92.far ?_ NB0_211.out _) | exact HI0.out), by repeat (first | (with_reducible first | exact HB.out | apply Ω6_3 | apply Ω7_3 | apply Ω8_3 | refine Ω9_3 ?_ (IsS92.ge HI0.out) | refine Ω9_3 ?_ GE204.out | refine Ω9_3 ?_ GE211.out) | exact HB.out), by repeat (first | (with_reducible first | exact HK.out | apply KeepBut.set_ | apply keep_drewN | apply keep_drew | apply keep_alloc | refine keep_far ?_ GW204.out _ | refine keep_far ?_ GW211.out _) | exact HK.out)⟩

/-! ### spec_DrawRoute: function 21 -/
def spec_DrawRoute.f (k : Nat) (l0 : List Int) : Option (List Int × List Int × Int) := (spec_l1New.f k l0).bind fun bt224 => ((spec_l1Below.f bt224.1 bt224.2.1 bt224.2.2 7).bind fun bt228 => ((spec_l1Below.f bt224.1 bt228.2.1 bt228.2.2 4).bind fun bt231 => ((spec_l4DrawOf.f k bt224.1 bt231.2.1 bt231.2.2 (([wrap64 (1 + bt228.1), wrap64 (1 + bt231.1)] : List Int))).bind fun bt237 => ((spec_l4Spoil.f bt224.1 bt237.2.2.1 bt237.2.2.2 bt237.1 bt237.2.1).bind fun bt245 => ((spec_l1Below.f bt224.1 bt245.2.2.1 bt245.2.2.2 4).bind fun bt254 => ((spec_l1Once.f bt224.1 bt254.2.1 bt254.2.2 30).bind fun bt257 => (if bt257.1 = true then ((spec_l1PickInt.f bt224.1 bt257.2.1 bt257.2.2 (([0, 4096, 4097] : List Int))).bind fun bt263 => (some (bt245.1, bt245.2.1, bt263.1))) else (some (bt245.1, bt245.2.1, wrap64 (1 + bt254.1))))))))))
theorem spec_DrawRoute.mono : ∀ a0 k, LeO (spec_DrawRoute.f k a0) (spec_DrawRoute.f (k + 1) a0) := by
 intro a0 k
 unfold spec_DrawRoute.f
 repeat' first
   | (with_reducible exact spec_l1New.mono _ _)
   | (with_reducible exact spec_l4DrawOf.mono _ _ _ _ _)
   | (with_reducible exact LeO.refl _)
   | (with_reducible exact LeO.none _)
   | (with_reducible refine LeO.ite ?_ ?_)
   | (with_reducible refine LeO.bind ?_ (fun _ => ?_))
   | exact spec_l1New.mono _ _
   | exact spec_l4DrawOf.mono _ _ _ _ _
   | exact LeO.none _
   | refine LeO.ite ?_ ?_
   | refine LeO.bind ?_ (fun _ => ?_)
set_option maxHeartbeats 8000000 in
set_option maxRecDepth 100000 in
theorem spec_DrawRoute.calls (k : Nat) (A0 : Option Addr) (c0 : Nat) (l0 : List Int) (r1 : List Int) (r2 : List Int) (r3 : Int) (w : World) (hr0 : Kd.C (Kd.int .u8) w A0 l0.length l0) (hc0 : l0.length ≤ c0) (h : spec_DrawRoute.f k l0 = some (r1, r2, r3)) :
  Calls Try.prog 21 #[.slice A0 l0.length c0] w fun e w' => ∃ v0_ v1_ : Value, e = .returned (.tuple #[.agg #[v0_, v1_], .int .i64 r3]) ∧ Kd.R (Kd.int .i64) 3 w' w.heap.size (fun k_ => some k_ ≠ (v1_ : Value).ownBlock) v0_ r1 ∧ Kd.R (Kd.int .i64) 3 w' w.heap.size (fun k_ => some k_ ≠ (v0_ : Value).ownBlock) v1_ r2 ∧ Below w.heap.size w w' := by
 have hu39 := Try.underlying39
 have HR0 := Ω5_3 hr0
 have HC0 := Ω5_3 hc0
 clear hr0 hc0
 have HB := Ω5_3 (Below.refl w.heap.size w)
 have H : ((spec_l1New.f k l0).bind fun bt224 => ((spec_l1Below.f bt224.1 bt224.2.1 bt224.2.2 7).bind fun bt228 => ((spec_l1Below.f bt224.1 bt228.2.1 bt228.2.2 4).bind fun bt231 => ((spec_l4DrawOf.f k bt224.1 bt231.2.1 bt231.2.2 (([wrap64 (1 + bt228.1), wrap64 (1 + bt231.1)] : List Int))).bind fun bt237 => ((spec_l4Spoil.f bt224.1 bt237.2.2.1 bt237.2.2.2 bt237.1 bt237.2.1).bind fun bt245 => ((spec_l1Below.f bt224.1 bt245.2.2.1 bt245.2.2.2 4).bind fun bt254 => ((spec_l1Once.f bt224.1 bt254.2.1 bt254.2.2 30).bind fun bt257 => (if bt257.1 = true then ((spec_l1PickInt.f bt224.1 bt257.2.1 bt257.2.2 (([0, 4096, 4097] : List Int))).bind fun bt263 => (some (bt245.1, bt245.2.1, bt263.1))) else (some (bt245.1, bt245.2.1, wrap64 (1 + bt254.1))))))))))) = some (r1, r2, r3) := h
 clear h
 replace H := Option.bind_eq_some_iff.mp H
 obtain ⟨⟨t224, t225, t226⟩, A20, H⟩ := H
 try dsimp only at H
 have A2 := Ω5_3 A20
 clear A20
 replace H := Option.bind_eq_some_iff.mp H
 obtain ⟨⟨t228, t229, t230⟩, A30, H⟩ := H
 try dsimp only at H
 have A3 := Ω5_3 A30
 clear A30
 replace H := Option.bind_eq_some_iff.mp H
 obtain ⟨⟨t231, t232, t233⟩, A40, H⟩ := H
 try dsimp only at H
 have A4 := Ω5_3 A40
 clear A40
 obtain ⟨y234, hy234⟩ : ∃ y_ : List Int, y_ = (([wrap64 (1 + t228), wrap64 (1 + t231)] : List Int)) := ⟨_, rfl⟩
 replace H : ((spec_l4DrawOf.f k t224 t232 t233 y234).bind fun bt237 => ((spec_l4Spoil.f t224 bt237.2.2.1 bt237.2.2.2 bt237.1 bt237.2.1).bind fun bt245 => ((spec_l1Below.f t224 bt245.2.2.1 bt245.2.2.2 4).bind fun bt254 => ((spec_l1Once.f t224 bt254.2.1 bt254.2.2 30).bind fun bt257 => (if bt257.1 = true then ((spec_l1PickInt.f t224 bt257.2.1 bt257.2.2 (([0, 4096, 4097] : List Int))).bind fun bt263 => (some (bt245.1, bt245.2.1, bt263.1))) else (some (bt245.1, bt245.2.1, wrap64 (1 + bt254.1)))))))) = some (r1, r2, r3) := by first | (rw [hy234]; with_reducible exact H) | (have H2_ := (Option.bind_some _ _).symm.trans H; rw [hy234]; with_reducible exact H2_) | (have H2_ := (Option.bind_some _ _).symm.trans H; with_reducible exact H2_) | with_reducible exact H | (rw [hy234]; exact H) | exact H
 have Ny234 := Ω5_3 hy234
 clear hy234
 replace H := Option.bind_eq_some_iff.mp H
 obtain ⟨⟨t237, t240, t243, t244⟩, A50, H⟩ := H
 try dsimp only at H
 have A5 := Ω5_3 A50
 clear A50
 replace H := Option.bind_eq_some_iff.mp H
 obtain ⟨⟨t245, t248, t251, t252⟩, A60, H⟩ := H
 try dsimp only at H
 have A6 := Ω5_3 A60
 clear A60
 replace H := Option.bind_eq_some_iff.mp H
 obtain ⟨⟨t254, t255, t256⟩, A70, H⟩ := H
 try dsimp only at H
 have A7 := Ω5_3 A70
 clear A70
 replace H := Option.bind_eq_some_iff.mp H
 obtain ⟨⟨t257, t258, t259⟩, A80, H⟩ := H
 try dsimp only at H
 have A8 := Ω5_3 A80
 clear A80
 by_cases c9 : t257 = true
 ·subst c9
  have H1 : ((spec_l1PickInt.f t224 t258 t259 (([0, 4096, 4097] : List Int))).bind fun bt263 => (some (t245, t248, bt263.1))) = some (r1, r2, r3) := by rw [if_pos rfl] at H; exact H
  clear H
  have H := H1
  clear H1
  obtain ⟨y260, hy260⟩ : ∃ y_ : List Int, y_ = (([0, 4096, 4097] : List Int)) := ⟨_, rfl⟩
  replace H : ((spec_l1PickInt.f t224 t258 t259 y260).bind fun bt263 => (some (t245, t248, bt263.1))) = some (r1, r2, r3) := by first | (rw [hy260]; with_reducible exact H) | (have H2_ := (Option.bind_some _ _).symm.trans H; rw [hy260]; with_reducible exact H2_) | (have H2_ := (Option.bind_some _ _).symm.trans H; with_reducible exact H2_) | with_reducible exact H | (rw [hy260]; exact H) | exact H
  have Ny260 := Ω5_3 hy260
  clear hy260
  replace H := Option.bind_eq_some_iff.mp H
  obtain ⟨⟨t263, t264, t265⟩, A100, H⟩ := H
  try dsimp only at H
  have A10 := Ω5_3 A100
  clear A100
  simp only [Option.some.injEq, Prod.mk.injEq] at H
  obtain ⟨rfl, rfl, rfl⟩ := H
  go_enter Try.func21, Try.ntmps21
  go_wp2_with (first | ((with_reducible refine gate_dst (N := 2) rfl ?_); refine box_event ?hg (N := 2) ?hd (cs := #[.slice none 0 0, .slice none 0 0]) (t := 39) ?hr ?_; (case hd => rfl); (case hg => rfl); (case hr => first | (go_simp; done) | (go_simp; rfl)); intro gb223 hg w11 hbox hb; have n0_ := Ω5_3 (below_step (by repeat (first | (with_reducible first | exact HB.out | apply Ω6_3 | apply Ω7_3 | apply Ω8_3) | exact HB.out)) hb); have n1_ := Ω5_3 (hbox); have n2_ := Ω5_3 ((by rw [hg]; exact (below_size (by repeat (first | (with_reducible first | exact HB.out | apply Ω6_3 | apply Ω7_3 | apply Ω8_3) | exact HB.out))) : w.heap.size ≤ gb223)); have n3_ := Ω5_3 ((by rw [hg]; exact (below_size (by repeat (first | (with_reducible first | exact HB.out | apply Ω6_3 | apply Ω7_3 | apply Ω8_3) | exact HB.out))) : w.heap.size ≤ gb223)); clear HB; have HB := n0_; have BK223 := n1_; have GW223 := n2_; have GE223 := n3_; clear n0_ n1_ n2_ n3_; clear hb hbox hg) | ((with_reducible refine gate_callee (f := 50) rfl ?_); refine goesL_ (some 8) rfl rfl Try.func50 (by kernel_rfl) rfl #[.slice A0 l0.length c0] rfl (by (try simp only [List.map_toArray, List.map_cons, List.map_nil]); first | done | rfl | (simp only [List.length_drop, List.length_take]; rfl)) ?_; (with_reducible refine (spec_l1New.calls k _ _ l0 t224 t225 t226 w _ ?side1 ?side2 ?side3 A2.out).mono ?_); (case side1 => repeat (first | (with_reducible first | exact HB.out | apply Ω6_3 | apply Ω7_3 | apply Ω8_3 | refine Ω9_3 ?_ GE223.out) | exact HB.out)); (case side2 => exact HR0.out); (case side3 => exact HC0.out); rintro e w12 ⟨g227, rfl, hi, hb, hb2⟩; refine ⟨_, rfl, ?_⟩; have n0_ := Ω5_3 (blk_below (g := gb223) (o := .cells #[.slice none 0 0, .slice none 0 0] 39 (0, 0)) (by (with_reducible repeat (first | refine ΩA_3 ?_ _ | refine ΩC_3 ?_ | refine ΩB_3 ?_ _)); exact BK223.out) hb2); have n1_ := Ω5_3 (hb); have n2_ := Ω5_3 (hi); have n3_ := Ω5_3 (IsS92.ne_blk hi (blk_below (g := gb223) (o := .cells #[.slice none 0 0, .slice none 0 0] 39 (0, 0)) (by (with_reducible repeat (first | refine ΩA_3 ?_ _ | refine ΩC_3 ?_ | refine ΩB_3 ?_ _)); exact BK223.out) hb2) (by decide)); have n4_ := Ω5_3 (Ne.symm (IsS92.ne_blk hi (blk_below (g := gb223) (o := .cells #[.slice none 0 0, .slice none 0 0] 39 (0, 0)) (by (with_reducible repeat (first | refine ΩA_3 ?_ _ | refine ΩC_3 ?_ | refine ΩB_3 ?_ _)); exact BK223.out) hb2) (by decide))); clear BK223; clear HB; have BK223 := n0_; have HB := n1_; have HI227 := n2_; have NB227_223 := n3_; have NB223_227 := n4_; clear n0_ n1_ n2_ n3_ n4_; (try clear hb); (try clear hb2); (try clear hk); (try clear hi)) | ((with_reducible refine gate_callee (f := 53) rfl ?_); refine goesL_ (some 12) rfl rfl Try.func53 (by kernel_rfl) rfl #[.pointer (some ⟨g227, 0, none⟩), .int .i64 7] rfl (by (try simp only [List.map_toArray, List.map_cons, List.map_nil]); first | done | rfl | (simp only [List.length_drop, List.length_take]; rfl)) ?_; (with_reducible refine (spec_l1Below.calls g227 t224 t225 t226 7 t228 t229 t230 w _ ?side1 ?side2 A3.out).mono ?_); (case side1 => repeat (first | (with_reducible first | exact HI227.out | apply IsS92.alloc | apply IsS92.drewN | apply IsS92.drew | apply IsS92.set_1 | apply IsS92.set_2 | refine IsS92.far ?_ NB227_223.out _) | exact HI227.out)); (case side2 => repeat (first | (with_reducible first | exact HB.out | apply Ω6_3 | apply Ω7_3 | apply Ω8_3 | refine Ω9_3 ?_ (IsS92.ge HI227.out) | refine Ω9_3 ?_ GE223.out) | exact HB.out)); rintro e w13 ⟨rfl, hi, hb, hk⟩; refine ⟨_, rfl, ?_⟩; have n0_ := Ω5_3 (KeepBut.blk hk (g' := gb223) (o := .cells #[.slice none 0 0, .slice none 0 0] 39 (0, 0)) (by (with_reducible repeat (first | refine ΩA_3 ?_ _ | refine ΩC_3 ?_ | refine ΩB_3 ?_ _)); exact BK223.out) NB223_227.out (by simp)); have n1_ := Ω5_3 (hb); have n2_ := Ω5_3 (hi); clear BK223; clear HB; clear HI227; have BK223 := n0_; have HB := n1_; have HI227 := n2_; clear n0_ n1_ n2_; (try clear hb); (try clear hb2); (try clear hk); (try clear hi)) | ((with_reducible refine gate_callee (f := 53) rfl ?_); refine goesL_ (some 15) rfl rfl Try.func53 (by kernel_rfl) rfl #[.pointer (some ⟨g227, 0, none⟩), .int .i64 4] rfl (by (try simp only [List.map_toArray, List.map_cons, List.map_nil]); first | done | rfl | (simp only [List.length_drop, List.length_take]; rfl)) ?_; (with_reducible refine (spec_l1Below.calls g227 t224 t229 t230 4 t231 t232 t233 w _ ?side1 ?side2 A4.out).mono ?_); (case side1 => repeat (first | (with_reducible first | exact HI227.out | apply IsS92.alloc | apply IsS92.drewN | apply IsS92.drew | apply IsS92.set_1 | apply IsS92.set_2 | refine IsS92.far ?_ NB227_223.out _) | exact HI227.out)); (case side2 => repeat (first | (with_reducible first | exact HB.out | apply Ω6_3 | apply Ω7_3 | apply Ω8_3 | refine Ω9_3 ?_ (IsS92.ge HI227.out) | refine Ω9_3 ?_ GE223.out) | exact HB.out)); rintro e w14 ⟨rfl, hi, hb, hk⟩; refine ⟨_, rfl, ?_⟩; have n0_ := Ω5_3 (KeepBut.blk hk (g' := gb223) (o := .cells #[.slice none 0 0, .slice none 0 0] 39 (0, 0)) (by (with_reducible repeat (first | refine ΩA_3 ?_ _ | refine ΩC_3 ?_ | refine ΩB_3 ?_ _)); exact BK223.out) NB223_227.out (by simp)); have n1_ := Ω5_3 (hb); have n2_ := Ω5_3 (hi); clear BK223; clear HB; clear HI227; have BK223 := n0_; have HB := n1_; have HI227 := n2_; clear n0_ n1_ n2_; (try clear hb); (try clear hb2); (try clear hk); (try clear hi)) | ((with_reducible refine gate_dst (N := 17) rfl ?_); refine Kd.R_lit (Kd.int .i64) _ 3 ?hg (N := 17) ?hd (xs := ([wrap64 (1 + t228), wrap64 (1 + t231)] : List Int)) (inner := [.int .i64 (wrap64 (1 + t228)), .int .i64 (wrap64 (1 + t231))]) (ok := fun _ => True) (okp := fun _ => True) ?hr ?hp (fun _ hk => hk) trivial (Below.refl _ _) (Nat.le_refl _) (by simp) ?_; (case hd => rfl); (case hg => rfl); (case hr => first | (go_simp; done) | (go_simp; rfl)); (case hp => exact (Reps.one (show Kd.M (Kd.int .i64) _ _ _ (wrap64 (1 + t228)) [.int .i64 (wrap64 (1 + t228))] from rfl) (Reps.one (show Kd.M (Kd.int .i64) _ _ _ (wrap64 (1 + t231)) [.int .i64 (wrap64 (1 + t231))] from rfl) (Reps.none _ _)))); intro v235 w15 ho16 hb hg_ hnew_; clear hg_ hnew_; (first | rw [← Ny234.out] at ho16 | (simp only [Int.reduceToNat] at ho16; rw [← Ny234.out] at ho16)); have n0_ := Ω5_3 (Kd.R_lower ho16 (below_size (by repeat (first | (with_reducible first | exact HB.out | apply Ω6_3 | apply Ω7_3 | apply Ω8_3 | refine Ω9_3 ?_ (IsS92.ge HI227.out) | refine Ω9_3 ?_ GE223.out) | exact HB.out)))); have n1_ := Ω5_3 (blk_below (g := gb223) (o := .cells #[.slice none 0 0, .slice none 0 0] 39 (0, 0)) (by (with_reducible repeat (first | refine ΩA_3 ?_ _ | refine ΩC_3 ?_ | refine ΩB_3 ?_ _)); exact BK223.out) hb); have n2_ := Ω5_3 (IsS92.below (by repeat (first | (with_reducible first | exact HI227.out | apply IsS92.alloc | apply IsS92.drewN | apply IsS92.drew | apply IsS92.set_1 | apply IsS92.set_2 | refine IsS92.far ?_ NB227_223.out _) | exact HI227.out)) hb); have n3_ := Ω5_3 (below_step (by repeat (first | (with_reducible first | exact HB.out | apply Ω6_3 | apply Ω7_3 | apply Ω8_3 | refine Ω9_3 ?_ (IsS92.ge HI227.out) | refine Ω9_3 ?_ GE223.out) | exact HB.out)) hb); clear BK223; clear HI227; clear HB; have HO236 := n0_; have BK223 := n1_; have HI227 := n2_; have HB := n3_; clear n0_ n1_ n2_ n3_; clear hb ho16; obtain ⟨Ao17, co17, eo17⟩ := Kd.R_slice HO236.out; subst eo17) | ((with_reducible refine gate_callee (f := 52) rfl ?_); refine goesL_ (some 18) rfl rfl Try.func52 (by kernel_rfl) rfl #[.pointer (some ⟨g227, 0, none⟩), .slice Ao17 y234.length co17] rfl (by (try simp only [List.map_toArray, List.map_cons, List.map_nil]); first | done | rfl | (simp only [List.length_drop, List.length_take]; rfl)) ?_; (with_reducible refine (spec_l4DrawOf.calls k g227 t224 t232 t233 _ _ y234 t237 t240 t243 t244 w _ ?side1 ?side2 ?side3 ?side4 ?side5 A5.out).mono ?_); (case side1 => repeat (first | (with_reducible first | exact HI227.out | apply IsS92.alloc | apply IsS92.drewN | apply IsS92.drew | apply IsS92.set_1 | apply IsS92.set_2 | refine IsS92.far ?_ NB227_223.out _) | exact HI227.out)); (case side2 => repeat (first | (with_reducible first | exact HB.out | apply Ω6_3 | apply Ω7_3 | apply Ω8_3 | refine Ω9_3 ?_ (IsS92.ge HI227.out) | refine Ω9_3 ?_ GE223.out) | exact HB.out)); (case side3 => repeat (first | exact (Kd.R_reads' HO236.out).2.2 | (with_reducible refine Kd.C_alloc ?_ _) | (with_reducible refine Kd.C_drewN ?_ _) | (with_reducible refine Kd.C_drew ?_))); (case side4 => exact (Kd.R_reads' HO236.out).2.1); (case side5 => exact far_slice (IsS92.own_ne HI227.out HO236.out (by decide))); rintro e w18 ⟨v238, v241, rfl, ho0, ho1, hi, hb, hk⟩; refine ⟨_, rfl, ?_⟩; have n0_ := Ω5_3 (KeepBut.blk hk (g' := gb223) (o := .cells #[.slice none 0 0, .slice none 0 0] 39 (0, 0)) (by (with_reducible repeat (first | refine ΩA_3 ?_ _ | refine ΩC_3 ?_ | refine ΩB_3 ?_ _)); exact BK223.out) NB223_227.out (by simp)); have n1_ := Ω5_3 (ΩE_3 (Kd.R_told (Kd.R_told (Kd.R_oldK (IsS92.apart (show IsS92 w _ g227 t224 t232 t233 from by repeat (first | (with_reducible first | exact HI227.out | apply IsS92.alloc | apply IsS92.drewN | apply IsS92.drew | apply IsS92.set_1 | apply IsS92.set_2 | refine IsS92.far ?_ NB227_223.out _) | exact HI227.out)) (by (with_reducible repeat (first | apply Ω1_3 | apply Ω2_3 | apply Ω3_3)); exact HO236.out) (by decide)) hk) (Kd.R_base ho0)) (Kd.R_base ho1)) (fun _ h_ => h_.1)); have n2_ := Ω5_3 (Kd.R_lower (Kd.R_new' ho0 (Kd.R_lt (by (with_reducible repeat (first | apply Ω1_3 | apply Ω2_3 | apply Ω3_3)); exact HO236.out))) (below_size (by repeat (first | (with_reducible first | exact HB.out | apply Ω6_3 | apply Ω7_3 | apply Ω8_3 | refine Ω9_3 ?_ (IsS92.ge HI227.out) | refine Ω9_3 ?_ GE223.out) | exact HB.out)))); have n3_ := Ω5_3 (Kd.R_lower (Kd.R_new' ho1 (Kd.R_lt (by (with_reducible repeat (first | apply Ω1_3 | apply Ω2_3 | apply Ω3_3)); exact HO236.out))) (below_size (by repeat (first | (with_reducible first | exact HB.out | apply Ω6_3 | apply Ω7_3 | apply Ω8_3 | refine Ω9_3 ?_ (IsS92.ge HI227.out) | refine Ω9_3 ?_ GE223.out) | exact HB.out)))); have n4_ := Ω5_3 (hb); have n5_ := Ω5_3 (hi); clear BK223; clear HO236; clear HB; clear HI227; have BK223 := n0_; have HO236 := n1_; have HO239 := n2_; have HO242 := n3_; have HB := n4_; have HI227 := n5_; clear n0_ n1_ n2_ n3_ n4_ n5_; (try clear hb); (try clear hb2); (try clear hk); (try clear hi); (try clear ho0); (try clear ho1); obtain ⟨Ao19, co19, eo19⟩ := Kd.R_slice HO239.out; subst eo19; obtain ⟨Ao20, co20, eo20⟩ := Kd.R_slice HO242.out; subst eo20) | ((with_reducible refine gate_callee (f := 51) rfl ?_); refine goesL_ (some 19) rfl rfl Try.func51 (by kernel_rfl) rfl #[.pointer (some ⟨g227, 0, none⟩), .agg #[.slice Ao19 t237.length co19, .slice Ao20 t240.length co20]] rfl (by (try simp only [List.map_toArray, List.map_cons, List.map_nil]); first | done | rfl | (simp only [List.length_drop, List.length_take]; rfl)) ?_; (with_reducible refine (spec_l4Spoil.calls g227 t224 t243 t244 (fun k_ => some k_ = (.slice Ao19 t237.length co19 : Value).ownBlock) (.slice Ao19 t237.length co19) t237 (fun k_ => some k_ = (.slice Ao20 t240.length co20 : Value).ownBlock) (.slice Ao20 t240.length co20) t240 t245 t248 t251 t252 w _ ?side1 ?side2 ?side3 ?side4 ?side5 ?side6 A6.out).mono ?_); (case side1 => repeat (first | (with_reducible first | exact HI227.out | apply IsS92.alloc | apply IsS92.drewN | apply IsS92.drew | apply IsS92.set_1 | apply IsS92.set_2 | refine IsS92.far ?_ NB227_223.out _) | exact HI227.out)); (case side2 => repeat (first | (with_reducible first | exact HB.out | apply Ω6_3 | apply Ω7_3 | apply Ω8_3 | refine Ω9_3 ?_ (IsS92.ge HI227.out) | refine Ω9_3 ?_ GE223.out) | exact HB.out)); (case side3 => exact Kd.R_tight rfl HO239.out); (case side4 => exact fun k_ e_ => (HO239.out.1 k_ e_.symm).1); (case side5 => exact Kd.R_tight rfl HO242.out); (case side6 => exact fun k_ e_ => (HO242.out.1 k_ e_.symm).1); rintro e w21 ⟨v246, v249, rfl, ho0, ho1, hi, hb, hkp⟩; refine ⟨_, rfl, ?_⟩; have n0_ := Ω5_3 (blk_kept (by first | exact BK223.out | ((with_reducible repeat (first | refine ΩA_3 ?_ _ | refine ΩC_3 ?_ | refine ΩB_3 ?_ _)); exact BK223.out)) hkp (fun hs_ => Or.elim hs_ (fun hs_ => Or.elim hs_ (fun e_ => (fun e_ => (Kd.R_ne HO239.out BK223.out (by decide)) e_) e_) (fun e_ => (fun e_ => (Kd.R_ne HO242.out BK223.out (by decide)) e_) e_)) (fun e_ => NB223_227.out e_))); have n1_ := Ω5_3 (hi); have n2_ := Ω5_3 (ΩE_3 (ok' := fun k_ => some k_ ≠ (v246 : Value).ownBlock ∧ some k_ ≠ (v249 : Value).ownBlock) (Kd.R_keptB ((IsS92.apart HI227.out HO236.out (by decide))) hkp (fun k_ hk_ hs_ => Or.elim hs_ (fun hs_ => Or.elim hs_ (fun e_ => (hk_.1.1.2) e_) (fun e_ => (hk_.1.2) e_)) (fun e_ => (hk_.2) e_))) (fun k_ hk_ => ⟨fun e_ => Or.elim (ho0.1 k_ e_.symm).1 (fun hs_ => by first | exact hk_.2.1 hs_ | exact hk_.2.1 (Or.inl hs_)) (fun hn_ => Nat.not_le.2 hk_.2.2 hn_), fun e_ => Or.elim (ho1.1 k_ e_.symm).1 (fun hs_ => by first | exact hk_.2.1 hs_ | exact hk_.2.1 (Or.inl hs_)) (fun hn_ => Nat.not_le.2 hk_.2.2 hn_)⟩)); have n3_ := Ω5_3 (ΩE_3 (ok' := fun k_ => some k_ ≠ (v249 : Value).ownBlock ∧ some k_ ≠ (.slice Ao17 y234.length co17 : Value).ownBlock) ho0 (fun k_ hk_ => ⟨hk_.2, Or.elim hk_.1 (fun hs_ => Or.elim hs_ (fun hs_ => fun e_ => ((((IsS92.apart HI227.out HO236.out (by decide))).1 k_ e_.symm).1.1.2) hs_) (fun hs_ => fun e_ => ((((IsS92.apart HI227.out HO236.out (by decide))).1 k_ e_.symm).1.2) hs_)) (fun hn_ => (Kd.fresh' (Kd.R_lt (by (with_reducible repeat (first | apply Ω1_3 | apply Ω2_3 | apply Ω3_3)); exact HO236.out)) k_ hn_))⟩)); have n4_ := Ω5_3 (ΩE_3 (ok' := fun k_ => some k_ ≠ (v246 : Value).ownBlock ∧ some k_ ≠ (.slice Ao17 y234.length co17 : Value).ownBlock) ho1 (fun k_ hk_ => ⟨hk_.2, Or.elim hk_.1 (fun hs_ => Or.elim hs_ (fun hs_ => fun e_ => ((((IsS92.apart HI227.out HO236.out (by decide))).1 k_ e_.symm).1.1.2) hs_) (fun hs_ => fun e_ => ((((IsS92.apart HI227.out HO236.out (by decide))).1 k_ e_.symm).1.2) hs_)) (fun hn_ => (Kd.fresh' (Kd.R_lt (by (with_reducible repeat (first | apply Ω1_3 | apply Ω2_3 | apply Ω3_3)); exact HO236.out)) k_ hn_))⟩)); have n5_ := Ω5_3 (hb); clear BK223; clear HI227; clear HO236; clear HB; clear HO239; clear HO242; have BK223 := n0_; have HI227 := n1_; have HO236 := n2_; have HO247 := n3_; have HO250 := n4_; have HB := n5_; clear n0_ n1_ n2_ n3_ n4_ n5_; (try clear hb); (try clear hkp); (try clear ho0); (try clear ho1)) | ((with_reducible refine gate_dst (N := 5) rfl ?_); refine box_event ?hg (N := 5) ?hd (cs := #[.slice none 0 0, .slice none 0 0]) (t := 39) ?hr ?_; (case hd => rfl); (case hg => rfl); (case hr => first | (go_simp; done) | (go_simp; rfl)); intro gb253 hg w22 hbox hb; have n0_ := Ω5_3 (Kd.R_below (by (with_reducible repeat (first | apply Ω1_3 | apply Ω2_3 | apply Ω3_3)); exact HO236.out) hb); have n1_ := Ω5_3 (Kd.R_below (by (with_reducible repeat (first | apply Ω1_3 | apply Ω2_3 | apply Ω3_3)); exact HO247.out) hb); have n2_ := Ω5_3 (Kd.R_below (by (with_reducible repeat (first | apply Ω1_3 | apply Ω2_3 | apply Ω3_3)); exact HO250.out) hb); have n3_ := Ω5_3 (blk_below (g := gb223) (o := .cells #[.slice none 0 0, .slice none 0 0] 39 (0, 0)) (by (with_reducible repeat (first | refine ΩA_3 ?_ _ | refine ΩC_3 ?_ | refine ΩB_3 ?_ _)); exact BK223.out) hb); have n4_ := Ω5_3 (IsS92.below (by repeat (first | (with_reducible first | exact HI227.out | apply IsS92.alloc | apply IsS92.drewN | apply IsS92.drew | apply IsS92.set_1 | apply IsS92.set_2 | refine IsS92.far ?_ NB227_223.out _) | exact HI227.out)) hb); have n5_ := Ω5_3 (below_step (by repeat (first | (with_reducible first | exact HB.out | apply Ω6_3 | apply Ω7_3 | apply Ω8_3 | refine Ω9_3 ?_ (IsS92.ge HI227.out) | refine Ω9_3 ?_ GE223.out) | exact HB.out)) hb); have n6_ := Ω5_3 (hbox); have n7_ := Ω5_3 ((by rw [hg]; exact (below_size (by repeat (first | (with_reducible first | exact HB.out | apply Ω6_3 | apply Ω7_3 | apply Ω8_3 | refine Ω9_3 ?_ (IsS92.ge HI227.out) | refine Ω9_3 ?_ GE223.out) | exact HB.out))) : w.heap.size ≤ gb253)); have n8_ := Ω5_3 ((by rw [hg]; exact (below_size (by repeat (first | (with_reducible first | exact HB.out | apply Ω6_3 | apply Ω7_3 | apply Ω8_3 | refine Ω9_3 ?_ (IsS92.ge HI227.out) | refine Ω9_3 ?_ GE223.out) | exact HB.out))) : w.heap.size ≤ gb253)); have n9_ := Ω5_3 ((by rw [hg]; exact Nat.ne_of_lt (blk_lt (g := gb223) (o := .cells #[.slice none 0 0, .slice none 0 0] 39 (0, 0)) (by (with_reducible repeat (first | refine ΩA_3 ?_ _ | refine ΩC_3 ?_ | refine ΩB_3 ?_ _)); exact BK223.out)) : gb223 ≠ gb253)); have n10_ := Ω5_3 ((by rw [hg]; exact Nat.ne_of_gt (blk_lt (g := gb223) (o := .cells #[.slice none 0 0, .slice none 0 0] 39 (0, 0)) (by (with_reducible repeat (first | refine ΩA_3 ?_ _ | refine ΩC_3 ?_ | refine ΩB_3 ?_ _)); exact BK223.out)) : gb253 ≠ gb223)); have n11_ := Ω5_3 ((by rw [hg]; exact Nat.ne_of_lt (IsS92.lt (show IsS92 w _ g227 t224 t251 t252 from by repeat (first | (with_reducible first | exact HI227.out | apply IsS92.alloc | apply IsS92.drewN | apply IsS92.drew | apply IsS92.set_1 | apply IsS92.set_2 | refine IsS92.far ?_ NB227_223.out _) | exact HI227.out))) : g227 ≠ gb253)); have n12_ := Ω5_3 ((by rw [hg]; exact Nat.ne_of_gt (IsS92.lt (show IsS92 w _ g227 t224 t251 t252 from by repeat (first | (with_reducible first | exact HI227.out | apply IsS92.alloc | apply IsS92.drewN | apply IsS92.drew | apply IsS92.set_1 | apply IsS92.set_2 | refine IsS92.far ?_ NB227_223.out _) | exact HI227.out))) : gb253 ≠ g227)); clear HO236; clear HO247; clear HO250; clear BK223; clear HI227; clear HB; have HO236 := n0_; have HO247 := n1_; have HO250 := n2_; have BK223 := n3_; have HI227 := n4_; have HB := n5_; have BK253 := n6_; have GW253 := n7_; have GE253 := n8_; have NB223_253 := n9_; have NB253_223 := n10_; have NB227_253 := n11_; have NB253_227 := n12_; clear n0_ n1_ n2_ n3_ n4_ n5_ n6_ n7_ n8_ n9_ n10_ n11_ n12_; clear hb hbox hg; obtain ⟨Ao23, co23, eo23⟩ := Kd.R_slice HO247.out; subst eo23; have hnb24 := NB253_223.out; have hnc24 := NB223_253.out; have hnb25 := NB253_227.out; have hnc25 := NB227_253.out; have hcz26_0 : w22.cell? ⟨gb253, 0, none⟩ = some (.slice none 0 0) := (blk_cell BK253.out 0).trans rfl; have hcz26_1 : w22.cell? ⟨gb253, 1, none⟩ = some (.slice none 0 0) := (blk_cell BK253.out 1).trans rfl; have hfz26_0 := blk_frozen BK253.out 0; have hfz26_1 := blk_frozen BK253.out 1; obtain ⟨Ao27, co27, eo27⟩ := Kd.R_slice HO250.out; subst eo27) | ((with_reducible refine gate_callee (f := 53) rfl ?_); refine goesL_ (some 21) rfl rfl Try.func53 (by kernel_rfl) rfl #[.pointer (some ⟨g227, 0, none⟩), .int .i64 4] rfl (by (try simp only [List.map_toArray, List.map_cons, List.map_nil]); first | done | rfl | (simp only [List.length_drop, List.length_take]; rfl)) ?_; (with_reducible refine (spec_l1Below.calls g227 t224 t251 t252 4 t254 t255 t256 w _ ?side1 ?side2 A7.out).mono ?_); (case side1 => repeat (first | (with_reducible first | exact HI227.out | apply IsS92.alloc | apply IsS92.drewN | apply IsS92.drew | apply IsS92.set_1 | apply IsS92.set_2 | refine IsS92.far ?_ NB227_223.out _ | refine IsS92.far ?_ NB227_253.out _) | exact HI227.out)); (case side2 => repeat (first | (with_reducible first | exact HB.out | apply Ω6_3 | apply Ω7_3 | apply Ω8_3 | refine Ω9_3 ?_ (IsS92.ge HI227.out) | refine Ω9_3 ?_ GE223.out | refine Ω9_3 ?_ GE253.out) | exact HB.out)); rintro e w28 ⟨rfl, hi, hb, hk⟩; refine ⟨_, rfl, ?_⟩; have n0_ := Ω5_3 (KeepBut.blk hk (g' := gb223) (o := .cells #[.slice none 0 0, .slice none 0 0] 39 (0, 0)) (by (with_reducible repeat (first | refine ΩA_3 ?_ _ | refine ΩC_3 ?_ | refine ΩB_3 ?_ _)); refine blk_far ?_ NB223_253.out _; (with_reducible repeat (first | refine ΩA_3 ?_ _ | refine ΩC_3 ?_ | refine ΩB_3 ?_ _)); refine blk_far ?_ NB223_253.out _; (with_reducible repeat (first | refine ΩA_3 ?_ _ | refine ΩC_3 ?_ | refine ΩB_3 ?_ _)); exact BK223.out) NB223_227.out (by simp)); have n1_ := Ω5_3 (ΩE_3 (Kd.R_keep (IsS92.apart (show IsS92 w _ g227 t224 t251 t252 from by repeat (first | (with_reducible first | exact HI227.out | apply IsS92.alloc | apply IsS92.drewN | apply IsS92.drew | apply IsS92.set_1 | apply IsS92.set_2 | refine IsS92.far ?_ NB227_223.out _ | refine IsS92.far ?_ NB227_253.out _) | exact HI227.out)) (by (with_reducible repeat (first | apply Ω1_3 | apply Ω2_3 | apply Ω3_3)); exact (ΩE_3 (Kd.R_far (p := ⟨gb253, 1, none⟩) (Kd.R_far (p := ⟨gb253, 0, none⟩) (Kd.R_types HO236.out BK253.out (by decide)) (fun _ hk => hk.2) (.slice Ao23 t245.length co23)) (fun _ hk => hk.2) (.slice Ao27 t248.length co27)) (fun _ h_ => h_.1))) (by decide)) hk (fun _ h => h.2)) (fun _ h => h.1)); have n2_ := Ω5_3 (ΩE_3 (Kd.R_keep (IsS92.apart (show IsS92 w _ g227 t224 t251 t252 from by repeat (first | (with_reducible first | exact HI227.out | apply IsS92.alloc | apply IsS92.drewN | apply IsS92.drew | apply IsS92.set_1 | apply IsS92.set_2 | refine IsS92.far ?_ NB227_223.out _ | refine IsS92.far ?_ NB227_253.out _) | exact HI227.out)) (by (with_reducible repeat (first | apply Ω1_3 | apply Ω2_3 | apply Ω3_3)); exact (ΩE_3 (Kd.R_far (p := ⟨gb253, 1, none⟩) (Kd.R_far (p := ⟨gb253, 0, none⟩) (Kd.R_types HO247.out BK253.out (by decide)) (fun _ hk => hk.2) (.slice Ao23 t245.length co23)) (fun _ hk => hk.2) (.slice Ao27 t248.length co27)) (fun _ h_ => h_.1))) (by decide)) hk (fun _ h => h.2)) (fun _ h => h.1)); have n3_ := Ω5_3 (ΩE_3 (Kd.R_keep (IsS92.apart (show IsS92 w _ g227 t224 t251 t252 from by repeat (first | (with_reducible first | exact HI227.out | apply IsS92.alloc | apply IsS92.drewN | apply IsS92.drew | apply IsS92.set_1 | apply IsS92.set_2 | refine IsS92.far ?_ NB227_223.out _ | refine IsS92.far ?_ NB227_253.out _) | exact HI227.out)) (by (with_reducible repeat (first | apply Ω1_3 | apply Ω2_3 | apply Ω3_3)); exact (ΩE_3 (Kd.R_far (p := ⟨gb253, 1, none⟩) (Kd.R_far (p := ⟨gb253, 0, none⟩) (Kd.R_types HO250.out BK253.out (by decide)) (fun _ hk => hk.2) (.slice Ao23 t245.length co23)) (fun _ hk => hk.2) (.slice Ao27 t248.length co27)) (fun _ h_ => h_.1))) (by decide)) hk (fun _ h => h.2)) (fun _ h => h.1)); have n4_ := Ω5_3 (KeepBut.blk hk (g' := gb253) (o := .cells #[.slice Ao23 t245.length co23, .slice Ao27 t248.length co27] 39 (0, 0)) (by (with_reducible repeat (first | refine ΩA_3 ?_ _ | refine ΩC_3 ?_ | refine ΩB_3 ?_ _)); refine blk_put (cs := #[.slice Ao23 t245.length co23, .slice none 0 0]) ?_ 1 _ rfl; (with_reducible repeat (first | refine ΩA_3 ?_ _ | refine ΩC_3 ?_ | refine ΩB_3 ?_ _)); refine blk_put (cs := #[.slice none 0 0, .slice none 0 0]) ?_ 0 _ rfl; (with_reducible repeat (first | refine ΩA_3 ?_ _ | refine ΩC_3 ?_ | refine ΩB_3 ?_ _)); exact BK253.out) NB253_227.out (by simp)); have n5_ := Ω5_3 (hb); have n6_ := Ω5_3 (hi); clear BK223; clear HO236; clear HO247; clear HO250; clear BK253; clear HB; clear HI227; have BK223 := n0_; have HO236 := n1_; have HO247 := n2_; have HO250 := n3_; have BK253 := n4_; have HB := n5_; have HI227 := n6_; clear n0_ n1_ n2_ n3_ n4_ n5_ n6_; (try clear hb); (try clear hb2); (try clear hk); (try clear hi)) | ((with_reducible refine gate_callee (f := 54) rfl ?_); refine goesL_ (some 24) rfl rfl Try.func54 (by kernel_rfl) rfl #[.pointer (some ⟨g227, 0, none⟩), .int .i64 30] rfl (by (try simp only [List.map_toArray, List.map_cons, List.map_nil]); first | done | rfl | (simp only [List.length_drop, List.length_take]; rfl)) ?_; (with_reducible refine (spec_l1Once.calls g227 t224 t255 t256 30 true t258 t259 w _ ?side1 ?side2 A8.out).mono ?_); (case side1 => repeat (first | (with_reducible first | exact HI227.out | apply IsS92.alloc | apply IsS92.drewN | apply IsS92.drew | apply IsS92.set_1 | apply IsS92.set_2 | refine IsS92.far ?_ NB227_223.out _ | refine IsS92.far ?_ NB227_253.out _) | exact HI227.out)); (case side2 => repeat (first | (with_reducible first | exact HB.out | apply Ω6_3 | apply Ω7_3 | apply Ω8_3 | refine Ω9_3 ?_ (IsS92.ge HI227.out) | refine Ω9_3 ?_ GE223.out | refine Ω9_3 ?_ GE253.out) | exact HB.out)); rintro e w29 ⟨rfl, hi, hb, hk⟩; refine ⟨_, rfl, ?_⟩; have n0_ := Ω5_3 (KeepBut.blk hk (g' := gb223) (o := .cells #[.slice none 0 0, .slice none 0 0] 39 (0, 0)) (by (with_reducible repeat (first | refine ΩA_3 ?_ _ | refine ΩC_3 ?_ | refine ΩB_3 ?_ _)); exact BK223.out) NB223_227.out (by simp)); have n1_ := Ω5_3 (ΩE_3 (Kd.R_keep (IsS92.apart (show IsS92 w _ g227 t224 t255 t256 from by repeat (first | (with_reducible first | exact HI227.out | apply IsS92.alloc | apply IsS92.drewN | apply IsS92.drew | apply IsS92.set_1 | apply IsS92.set_2 | refine IsS92.far ?_ NB227_223.out _ | refine IsS92.far ?_ NB227_253.out _) | exact HI227.out)) (by (with_reducible repeat (first | apply Ω1_3 | apply Ω2_3 | apply Ω3_3)); exact HO236.out) (by decide)) hk (fun _ h => h.2)) (fun _ h => h.1)); have n2_ := Ω5_3 (ΩE_3 (Kd.R_keep (IsS92.apart (show IsS92 w _ g227 t224 t255 t256 from by repeat (first | (with_reducible first | exact HI227.out | apply IsS92.alloc | apply IsS92.drewN | apply IsS92.drew | apply IsS92.set_1 | apply IsS92.set_2 | refine IsS92.far ?_ NB227_223.out _ | refine IsS92.far ?_ NB227_253.out _) | exact HI227.out)) (by (with_reducible repeat (first | apply Ω1_3 | apply Ω2_3 | apply Ω3_3)); exact HO247.out) (by decide)) hk (fun _ h => h.2)) (fun _ h => h.1)); have n3_ := Ω5_3 (ΩE_3 (Kd.R_keep (IsS92.apart (show IsS92 w _ g227 t224 t255 t256 from by repeat (first | (with_reducible first | exact HI227.out | apply IsS92.alloc | apply IsS92.drewN | apply IsS92.drew | apply IsS92.set_1 | apply IsS92.set_2 | refine IsS92.far ?_ NB227_223.out _ | refine IsS92.far ?_ NB227_253.out _) | exact HI227.out)) (by (with_reducible repeat (first | apply Ω1_3 | apply Ω2_3 | apply Ω3_3)); exact HO250.out) (by decide)) hk (fun _ h => h.2)) (fun _ h => h.1)); have n4_ := Ω5_3 (KeepBut.blk hk (g' := gb253) (o := .cells #[.slice Ao23 t245.length co23, .slice Ao27 t248.length co27] 39 (0, 0)) (by (with_reducible repeat (first | refine ΩA_3 ?_ _ | refine ΩC_3 ?_ | refine ΩB_3 ?_ _)); exact BK253.out) NB253_227.out (by simp)); have n5_ := Ω5_3 (hb); have n6_ := Ω5_3 (hi); clear BK223; clear HO236; clear HO247; clear HO250; clear BK253; clear HB; clear HI227; have BK223 := n0_; have HO236 := n1_; have HO247 := n2_; have HO250 := n3_; have BK253 := n4_; have HB := n5_; have HI227 := n6_; clear n0_ n1_ n2_ n3_ n4_ n5_ n6_; (try clear hb); (try clear hb2); (try clear hk); (try clear hi)) | ((with_reducible refine gate_dst (N := 26) rfl ?_); refine Kd.R_lit (Kd.int .i64) _ 3 ?hg (N := 26) ?hd (xs := ([0, 4096, 4097] : List Int)) (inner := [.int .i64 0, .int .i64 4096, .int .i64 4097]) (ok := fun _ => True) (okp := fun _ => True) ?hr ?hp (fun _ hk => hk) trivial (Below.refl _ _) (Nat.le_refl _) (by simp) ?_; (case hd => rfl); (case hg => rfl); (case hr => first | (go_simp; done) | (go_simp; rfl)); (case hp => exact (Reps.one (show Kd.M (Kd.int .i64) _ _ _ 0 [.int .i64 0] from rfl) (Reps.one (show Kd.M (Kd.int .i64) _ _ _ 4096 [.int .i64 4096] from rfl) (Reps.one (show Kd.M (Kd.int .i64) _ _ _ 4097 [.int .i64 4097] from rfl) (Reps.none _ _))))); intro v261 w30 ho31 hb hg_ hnew_; clear hg_ hnew_; (first | rw [← Ny260.out] at ho31 | (simp only [Int.reduceToNat] at ho31; rw [← Ny260.out] at ho31)); have n0_ := Ω5_3 (Kd.R_elder' (by (with_reducible repeat (first | apply Ω1_3 | apply Ω2_3 | apply Ω3_3)); exact HO236.out) (Kd.R_base ho31) hb); have n1_ := Ω5_3 (Kd.R_elder' (by (with_reducible repeat (first | apply Ω1_3 | apply Ω2_3 | apply Ω3_3)); exact HO247.out) (Kd.R_base ho31) hb); have n2_ := Ω5_3 (Kd.R_elder' (by (with_reducible repeat (first | apply Ω1_3 | apply Ω2_3 | apply Ω3_3)); exact HO250.out) (Kd.R_base ho31) hb); have n3_ := Ω5_3 (Kd.R_lower (Kd.R_new' (Kd.R_new' (Kd.R_new' ho31 (Kd.R_lt (by (with_reducible repeat (first | apply Ω1_3 | apply Ω2_3 | apply Ω3_3)); exact HO236.out))) (Kd.R_lt (by (with_reducible repeat (first | apply Ω1_3 | apply Ω2_3 | apply Ω3_3)); exact HO247.out))) (Kd.R_lt (by (with_reducible repeat (first | apply Ω1_3 | apply Ω2_3 | apply Ω3_3)); exact HO250.out))) (below_size (by repeat (first | (with_reducible first | exact HB.out | apply Ω6_3 | apply Ω7_3 | apply Ω8_3 | refine Ω9_3 ?_ (IsS92.ge HI227.out) | refine Ω9_3 ?_ GE223.out | refine Ω9_3 ?_ GE253.out) | exact HB.out)))); have n4_ := Ω5_3 (blk_below (g := gb223) (o := .cells #[.slice none 0 0, .slice none 0 0] 39 (0, 0)) (by (with_reducible repeat (first | refine ΩA_3 ?_ _ | refine ΩC_3 ?_ | refine ΩB_3 ?_ _)); exact BK223.out) hb); have n5_ := Ω5_3 (IsS92.below (by repeat (first | (with_reducible first | exact HI227.out | apply IsS92.alloc | apply IsS92.drewN | apply IsS92.drew | apply IsS92.set_1 | apply IsS92.set_2 | refine IsS92.far ?_ NB227_223.out _ | refine IsS92.far ?_ NB227_253.out _) | exact HI227.out)) hb); have n6_ := Ω5_3 (blk_below (g := gb253) (o := .cells #[.slice Ao23 t245.length co23, .slice Ao27 t248.length co27] 39 (0, 0)) (by (with_reducible repeat (first | refine ΩA_3 ?_ _ | refine ΩC_3 ?_ | refine ΩB_3 ?_ _)); exact BK253.out) hb); have n7_ := Ω5_3 (below_step (by repeat (first | (with_reducible first | exact HB.out | apply Ω6_3 | apply Ω7_3 | apply Ω8_3 | refine Ω9_3 ?_ (IsS92.ge HI227.out) | refine Ω9_3 ?_ GE223.out | refine Ω9_3 ?_ GE253.out) | exact HB.out)) hb); clear HO236; clear HO247; clear HO250; clear BK223; clear HI227; clear BK253; clear HB; have HO236 := n0_; have HO247 := n1_; have HO250 := n2_; have HO262 := n3_; have BK223 := n4_; have HI227 := n5_; have BK253 := n6_; have HB := n7_; clear n0_ n1_ n2_ n3_ n4_ n5_ n6_ n7_; clear hb ho31; obtain ⟨Ao32, co32, eo32⟩ := Kd.R_slice HO262.out; subst eo32) | ((with_reducible refine gate_callee (f := 55) rfl ?_); refine goesL_ (some 27) rfl rfl Try.func55 (by kernel_rfl) rfl #[.pointer (some ⟨g227, 0, none⟩), .slice Ao32 y260.length co32] rfl (by (try simp only [List.map_toArray, List.map_cons, List.map_nil]); first | done | rfl | (simp only [List.length_drop, List.length_take]; rfl)) ?_; (with_reducible refine (spec_l1PickInt.calls g227 t224 t258 t259 _ _ y260 t263 t264 t265 w _ ?side1 ?side2 ?side3 ?side4 ?side5 A10.out).mono ?_); (case side1 => repeat (first | (with_reducible first | exact HI227.out | apply IsS92.alloc | apply IsS92.drewN | apply IsS92.drew | apply IsS92.set_1 | apply IsS92.set_2 | refine IsS92.far ?_ NB227_223.out _ | refine IsS92.far ?_ NB227_253.out _) | exact HI227.out)); (case side2 => repeat (first | (with_reducible first | exact HB.out | apply Ω6_3 | apply Ω7_3 | apply Ω8_3 | refine Ω9_3 ?_ (IsS92.ge HI227.out) | refine Ω9_3 ?_ GE223.out | refine Ω9_3 ?_ GE253.out) | exact HB.out)); (case side3 => repeat (first | exact (Kd.R_reads' HO262.out).2.2 | (with_reducible refine Kd.C_alloc ?_ _) | (with_reducible refine Kd.C_drewN ?_ _) | (with_reducible refine Kd.C_drew ?_))); (case side4 => exact (Kd.R_reads' HO262.out).2.1); (case side5 => exact far_slice (IsS92.own_ne HI227.out HO262.out (by decide))); rintro e w33 ⟨rfl, hi, hb, hk⟩; refine ⟨_, rfl, ?_⟩; have n0_ := Ω5_3 (KeepBut.blk hk (g' := gb223) (o := .cells #[.slice none 0 0, .slice none 0 0] 39 (0, 0)) (by (with_reducible repeat (first | refine ΩA_3 ?_ _ | refine ΩC_3 ?_ | refine ΩB_3 ?_ _)); exact BK223.out) NB223_227.out (by simp)); have n1_ := Ω5_3 (ΩE_3 (Kd.R_keep (IsS92.apart (show IsS92 w _ g227 t224 t258 t259 from by repeat (first | (with_reducible first | exact HI227.out | apply IsS92.alloc | apply IsS92.drewN | apply IsS92.drew | apply IsS92.set_1 | apply IsS92.set_2 | refine IsS92.far ?_ NB227_223.out _ | refine IsS92.far ?_ NB227_253.out _) | exact HI227.out)) (by (with_reducible repeat (first | apply Ω1_3 | apply Ω2_3 | apply Ω3_3)); exact HO236.out) (by decide)) hk (fun _ h => h.2)) (fun _ h => h.1)); have n2_ := Ω5_3 (ΩE_3 (Kd.R_keep (IsS92.apart (show IsS92 w _ g227 t224 t258 t259 from by repeat (first | (with_reducible first | exact HI227.out | apply IsS92.alloc | apply IsS92.drewN | apply IsS92.drew | apply IsS92.set_1 | apply IsS92.set_2 | refine IsS92.far ?_ NB227_223.out _ | refine IsS92.far ?_ NB227_253.out _) | exact HI227.out)) (by (with_reducible repeat (first | apply Ω1_3 | apply Ω2_3 | apply Ω3_3)); exact HO247.out) (by decide)) hk (fun _ h => h.2)) (fun _ h => h.1)); have n3_ := Ω5_3 (ΩE_3 (Kd.R_keep (IsS92.apart (show IsS92 w _ g227 t224 t258 t259 from by repeat (first | (with_reducible first | exact HI227.out | apply IsS92.alloc | apply IsS92.drewN | apply IsS92.drew | apply IsS92.set_1 | apply IsS92.set_2 | refine IsS92.far ?_ NB227_223.out _ | refine IsS92.far ?_ NB227_253.out _) | exact HI227.out)) (by (with_reducible repeat (first | apply Ω1_3 | apply Ω2_3 | apply Ω3_3)); exact HO250.out) (by decide)) hk (fun _ h => h.2)) (fun _ h => h.1)); have n4_ := Ω5_3 (KeepBut.blk hk (g' := gb253) (o := .cells #[.slice Ao23 t245.length co23, .slice Ao27 t248.length co27] 39 (0, 0)) (by (with_reducible repeat (first | refine ΩA_3 ?_ _ | refine ΩC_3 ?_ | refine ΩB_3 ?_ _)); exact BK253.out) NB253_227.out (by simp)); have n5_ := Ω5_3 (ΩE_3 (Kd.R_keep (IsS92.apart (show IsS92 w _ g227 t224 t258 t259 from by repeat (first | (with_reducible first | exact HI227.out | apply IsS92.alloc | apply IsS92.drewN | apply IsS92.drew | apply IsS92.set_1 | apply IsS92.set_2 | refine IsS92.far ?_ NB227_223.out _ | refine IsS92.far ?_ NB227_253.out _) | exact HI227.out)) (by (with_reducible repeat (first | apply Ω1_3 | apply Ω2_3 | apply Ω3_3)); exact HO262.out) (by decide)) hk (fun _ h => h.2)) (fun _ h => h.1)); have n6_ := Ω5_3 (hb); have n7_ := Ω5_3 (hi); clear BK223; clear HO236; clear HO247; clear HO250; clear BK253; clear HO262; clear HB; clear HI227; have BK223 := n0_; have HO236 := n1_; have HO247 := n2_; have HO250 := n3_; have BK253 := n4_; have HO262 := n5_; have HB := n6_; have HI227 := n7_; clear n0_ n1_ n2_ n3_ n4_ n5_ n6_ n7_; (try clear hb); (try clear hb2); (try clear hk); (try clear hi); have hcz34_0 : w33.cell? ⟨gb253, 0, none⟩ = some (.slice Ao23 t245.length co23) := (blk_cell BK253.out 0).trans rfl; have hcz34_1 : w33.cell? ⟨gb253, 1, none⟩ = some (.slice Ao27 t248.length co27) := (blk_cell BK253.out 1).trans rfl; have hfz34_0 := blk_frozen BK253.out 0; have hfz34_1 := blk_frozen BK253.out 1; have hnb35 := NB223_227.out; have hnc35 := NB227_223.out; have hcz36_0 : w33.cell? ⟨gb223, 0, none⟩ = some (.slice none 0 0) := (blk_cell BK223.out 0).trans rfl; have hcz36_1 : w33.cell? ⟨gb223, 1, none⟩ = some (.slice none 0 0) := (blk_cell BK223.out 1).trans rfl; have hfz36_0 := blk_frozen BK223.out 0; have hfz36_1 := blk_frozen BK223.out 1))
  refine bodyPost_ret (results_ct rfl _ _ gb223 39 #[.slice Ao23 t245.length co23, .slice Ao27 t248.length co27] (0, 0) _ rfl (by (with_reducible repeat (first | refine ΩA_3 ?_ _ | refine ΩC_3 ?_ | refine ΩB_3 ?_ _)); refine blk_put (cs := #[.slice Ao23 t245.length co23, .slice none 0 0]) ?_ 1 _ rfl; (with_reducible repeat (first | refine ΩA_3 ?_ _ | refine ΩC_3 ?_ | refine ΩB_3 ?_ _)); refine blk_put (cs := #[.slice none 0 0, .slice none 0 0]) ?_ 0 _ rfl; (with_reducible repeat (first | refine ΩA_3 ?_ _ | refine ΩC_3 ?_ | refine ΩB_3 ?_ _)); exact BK223.out) Try.underlying39 rfl (by kernel_rfl)) rfl ?_
  exact ⟨_, _, by first | rfl | (simp [errW_none, errW_some] <;> rfl) | (simp [*, errW_none, errW_some] <;> rfl), by (with_reducible repeat (first | apply Ω1_3 | apply Ω2_3 | apply Ω3_3)); exact ΩE_3 (Kd.R_far (p := ⟨gb223, 1, none⟩) (Kd.R_far (p := ⟨gb223, 0, none⟩) (Kd.R_types HO247.out BK223.out (by decide)) (fun _ hk => hk.2) (.slice Ao23 t245.length co23)) (fun _ hk => hk.2) (.slice Ao27 t248.length co27)) (fun _ hk => hk.1.1.1), by (with_reducible repeat (first | apply Ω1_3 | apply Ω2_3 | apply Ω3_3)); exact ΩE_3 (Kd.R_far (p := ⟨gb223, 1, none⟩) (Kd.R_far (p := ⟨gb223, 0, none⟩) (Kd.R_types HO250.out BK223.out (by decide)) (fun _ hk => hk.2) (.slice Ao23 t245.length co23)) (fun _ hk => hk.2) (.slice Ao27 t248.length co27)) (fun _ hk => hk.1.1.1), by repeat (first | (with_reducible first | exact HB.out | apply Ω6_3 | apply Ω7_3 | apply Ω8_3 | refine Ω9_3 ?_ (IsS92.ge HI227.out) | refine Ω9_3 ?_ GE223.out | refine Ω9_3 ?_ GE253.out) | exact HB.out)⟩
 ·replace c9 := Bool.eq_false_iff.mpr c9
  subst c9
  have H1 : (some (t245, t248, wrap64 (1 + t254))) = some (r1, r2, r3) := by rw [if_neg (show ¬ (false = true) by decide)] at H; exact H
  clear H
  have H := H1
  clear H1
  simp only [Option.some.injEq, Prod.mk.injEq] at H
  obtain ⟨rfl, rfl, rfl⟩ := H
  go_enter Try.func21, Try.ntmps21
  go_wp2_with (first | ((with_reducible refine gate_dst (N := 2) rfl ?_); refine box_event ?hg (N := 2) ?hd (cs := #[.slice none 0 0, .slice none 0 0]) (t := 39) ?hr ?_; (case hd => rfl); (case hg => rfl); (case hr => first | (go_simp; done) | (go_simp; rfl)); intro gb223 hg w37 hbox hb; have n0_ := Ω5_3 (below_step (by repeat (first | (with_reducible first | exact HB.out | apply Ω6_3 | apply Ω7_3 | apply Ω8_3) | exact HB.out)) hb); have n1_ := Ω5_3 (hbox); have n2_ := Ω5_3 ((by rw [hg]; exact (below_size (by repeat (first | (with_reducible first | exact HB.out | apply Ω6_3 | apply Ω7_3 | apply Ω8_3) | exact HB.out))) : w.heap.size ≤ gb223)); have n3_ := Ω5_3 ((by rw [hg]; exact (below_size (by repeat (first | (with_reducible first | exact HB.out | apply Ω6_3 | apply Ω7_3 | apply Ω8_3) | exact HB.out))) : w.heap.size ≤ gb223)); clear HB; have HB := n0_; have BK223 := n1_; have GW223 := n2_; have GE223 := n3_; clear n0_ n1_ n2_ n3_; clear hb hbox hg) | ((with_reducible refine gate_callee (f := 50) rfl ?_); refine goesL_ (some 8) rfl rfl Try.func50 (by kernel_rfl) rfl #[.slice A0 l0.length c0] rfl (by (try simp only [List.map_toArray, List.map_cons, List.map_nil]); first | done | rfl | (simp only [List.length_drop, List.length_take]; rfl)) ?_; (with_reducible refine (spec_l1New.calls k _ _ l0 t224 t225 t226 w _ ?side1 ?side2 ?side3 A2.out).mono ?_); (case side1 => repeat (first | (with_reducible first | exact HB.out | apply Ω6_3 | apply Ω7_3 | apply Ω8_3 | refine Ω9_3 ?_ GE223.out) | exact HB.out)); (case side2 => exact HR0.out); (case side3 => exact HC0.out); rintro e w38 ⟨g227, rfl, hi, hb, hb2⟩; refine ⟨_, rfl, ?_⟩; have n0_ := Ω5_3 (blk_below (g := gb223) (o := .cells #[.slice none 0 0, .slice none 0 0] 39 (0, 0)) (by (with_reducible repeat (first | refine ΩA_3 ?_ _ | refine ΩC_3 ?_ | refine ΩB_3 ?_ _)); exact BK223.out) hb2); have n1_ := Ω5_3 (hb); have n2_ := Ω5_3 (hi); have n3_ := Ω5_3 (IsS92.ne_blk hi (blk_below (g := gb223) (o := .cells #[.slice none 0 0, .slice none 0 0] 39 (0, 0)) (by (with_reducible repeat (first | refine ΩA_3 ?_ _ | refine ΩC_3 ?_ | refine ΩB_3 ?_ _)); exact BK223.out) hb2) (by decide)); have n4_ := Ω5_3 (Ne.symm (IsS92.ne_blk hi (blk_below (g := gb223) (o := .cells #[.slice none 0 0, .slice none 0 0] 39 (0, 0)) (by (with_reducible repeat (first | refine ΩA_3 ?_ _ | refine ΩC_3 ?_ | refine ΩB_3 ?_ _)); exact BK223.out) hb2) (by decide))); clear BK223; clear HB; have BK223 := n0_; have HB := n1_; have HI227 := n2_; have NB227_223 := n3_; have NB223_227 := n4_; clear n0_ n1_ n2_ n3_ n4_; (try clear hb); (try clear hb2); (try clear hk); (try clear hi)) | ((with_reducible refine gate_callee (f := 53) rfl ?_); refine goesL_ (some 12) rfl rfl Try.func53 (by kernel_rfl) rfl #[.pointer (some ⟨g227, 0, none⟩), .int .i64 7] rfl (by (try simp only [List.map_toArray, List.map_cons, List.map_nil]); first | done | rfl | (simp only [List.length_drop, List.length_take]; rfl)) ?_; (with_reducible refine (spec_l1Below.calls g227 t224 t225 t226 7 t228 t229 t230 w _ ?side1 ?side2 A3.out).mono ?_); (case side1 => repeat (first | (with_reducible first | exact HI227.out | apply IsS92.alloc | apply IsS92.drewN | apply IsS92.drew | apply IsS92.set_1 | apply IsS92.set_2 | refine IsS92.far ?_ NB227_223.out _) | exact HI227.out)); (case side2 => repeat (first | (with_reducible first | exact HB.out | apply Ω6_3 | apply Ω7_3 | apply Ω8_3 | refine Ω9_3 ?_ (IsS92.ge HI227.out) | refine Ω9_3 ?_ GE223.out) | exact HB.out)); rintro e w39 ⟨rfl, hi, hb, hk⟩; refine ⟨_, rfl, ?_⟩; have n0_ := Ω5_3 (KeepBut.blk hk (g' := gb223) (o := .cells #[.slice none 0 0, .slice none 0 0] 39 (0, 0)) (by (with_reducible repeat (first | refine ΩA_3 ?_ _ | refine ΩC_3 ?_ | refine ΩB_3 ?_ _)); exact BK223.out) NB223_227.out (by simp)); have n1_ := Ω5_3 (hb); have n2_ := Ω5_3 (hi); clear BK223; clear HB; clear HI227; have BK223 := n0_; have HB := n1_; have HI227 := n2_; clear n0_ n1_ n2_; (try clear hb); (try clear hb2); (try clear hk); (try clear hi)) | ((with_reducible refine gate_callee (f := 53) rfl ?_); refine goesL_ (some 15) rfl rfl Try.func53 (by kernel_rfl) rfl #[.pointer (some ⟨g227, 0, none⟩), .int .i64 4] rfl (by (try simp only [List.map_toArray, List.map_cons, List.map_nil]); first | done | rfl | (simp only [List.length_drop, List.length_take]; rfl)) ?_; (with_reducible refine (spec_l1Below.calls g227 t224 t229 t230 4 t231 t232 t233 w _ ?side1 ?side2 A4.out).mono ?_); (case side1 => repeat (first | (with_reducible first | exact HI227.out | apply IsS92.alloc | apply IsS92.drewN | apply IsS92.drew | apply IsS92.set_1 | apply IsS92.set_2 | refine IsS92.far ?_ NB227_223.out _) | exact HI227.out)); (case side2 => repeat (first | (with_reducible first | exact HB.out | apply Ω6_3 | apply Ω7_3 | apply Ω8_3 | refine Ω9_3 ?_ (IsS92.ge HI227.out) | refine Ω9_3 ?_ GE223.out) | exact HB.out)); rintro e w40 ⟨rfl, hi, hb, hk⟩; refine ⟨_, rfl, ?_⟩; have n0_ := Ω5_3 (KeepBut.blk hk (g' := gb223) (o := .cells #[.slice none 0 0, .slice none 0 0] 39 (0, 0)) (by (with_reducible repeat (first | refine ΩA_3 ?_ _ | refine ΩC_3 ?_ | refine ΩB_3 ?_ _)); exact BK223.out) NB223_227.out (by simp)); have n1_ := Ω5_3 (hb); have n2_ := Ω5_3 (hi); clear BK223; clear HB; clear HI227; have BK223 := n0_; have HB := n1_; have HI227 := n2_; clear n0_ n1_ n2_; (try clear hb); (try clear hb2); (try clear hk); (try clear hi)) | ((with_reducible refine gate_dst (N := 17) rfl ?_); refine Kd.R_lit (Kd.int .i64) _ 3 ?hg (N := 17) ?hd (xs := ([wrap64 (1 + t228), wrap64 (1 + t231)] : List Int)) (inner := [.int .i64 (wrap64 (1 + t228)), .int .i64 (wrap64 (1 + t231))]) (ok := fun _ => True) (okp := fun _ => True) ?hr ?hp (fun _ hk => hk) trivial (Below.refl _ _) (Nat.le_refl _) (by simp) ?_; (case hd => rfl); (case hg => rfl); (case hr => first | (go_simp; done) | (go_simp; rfl)); (case hp => exact (Reps.one (show Kd.M (Kd.int .i64) _ _ _ (wrap64 (1 + t228)) [.int .i64 (wrap64 (1 + t228))] from rfl) (Reps.one (show Kd.M (Kd.int .i64) _ _ _ (wrap64 (1 + t231)) [.int .i64 (wrap64 (1 + t231))] from rfl) (Reps.none _ _)))); intro v235 w41 ho42 hb hg_ hnew_; clear hg_ hnew_; (first | rw [← Ny234.out] at ho42 | (simp only [Int.reduceToNat] at ho42; rw [← Ny234.out] at ho42)); have n0_ := Ω5_3 (Kd.R_lower ho42 (below_size (by repeat (first | (with_reducible first | exact HB.out | apply Ω6_3 | apply Ω7_3 | apply Ω8_3 | refine Ω9_3 ?_ (IsS92.ge HI227.out) | refine Ω9_3 ?_ GE223.out) | exact HB.out)))); have n1_ := Ω5_3 (blk_below (g := gb223) (o := .cells #[.slice none 0 0, .slice none 0 0] 39 (0, 0)) (by (with_reducible repeat (first | refine ΩA_3 ?_ _ | refine ΩC_3 ?_ | refine ΩB_3 ?_ _)); exact BK223.out) hb); have n2_ := Ω5_3 (IsS92.below (by repeat (first | (with_reducible first | exact HI227.out | apply IsS92.alloc | apply IsS92.drewN | apply IsS92.drew | apply IsS92.set_1 | apply IsS92.set_2 | refine IsS92.far ?_ NB227_223.out _) | exact HI227.out)) hb); have n3_ := Ω5_3 (below_step (by repeat (first | (with_reducible first | exact HB.out | apply Ω6_3 | apply Ω7_3 | apply Ω8_3 | refine Ω9_3 ?_ (IsS92.ge HI227.out) | refine Ω9_3 ?_ GE223.out) | exact HB.out)) hb); clear BK223; clear HI227; clear HB; have HO236 := n0_; have BK223 := n1_; have HI227 := n2_; have HB := n3_; clear n0_ n1_ n2_ n3_; clear hb ho42; obtain ⟨Ao43, co43, eo43⟩ := Kd.R_slice HO236.out; subst eo43) | ((with_reducible refine gate_callee (f := 52) rfl ?_); refine goesL_ (some 18) rfl rfl Try.func52 (by kernel_rfl) rfl #[.pointer (some ⟨g227, 0, none⟩), .slice Ao43 y234.length co43] rfl (by (try simp only [List.map_toArray, List.map_cons, List.map_nil]); first | done | rfl | (simp only [List.length_drop, List.length_take]; rfl)) ?_; (with_reducible refine (spec_l4DrawOf.calls k g227 t224 t232 t233 _ _ y234 t237 t240 t243 t244 w _ ?side1 ?side2 ?side3 ?side4 ?side5 A5.out).mono ?_); (case side1 => repeat (first | (with_reducible first | exact HI227.out | apply IsS92.alloc | apply IsS92.drewN | apply IsS92.drew | apply IsS92.set_1 | apply IsS92.set_2 | refine IsS92.far ?_ NB227_223.out _) | exact HI227.out)); (case side2 => repeat (first | (with_reducible first | exact HB.out | apply Ω6_3 | apply Ω7_3 | apply Ω8_3 | refine Ω9_3 ?_ (IsS92.ge HI227.out) | refine Ω9_3 ?_ GE223.out) | exact HB.out)); (case side3 => repeat (first | exact (Kd.R_reads' HO236.out).2.2 | (with_reducible refine Kd.C_alloc ?_ _) | (with_reducible refine Kd.C_drewN ?_ _) | (with_reducible refine Kd.C_drew ?_))); (case side4 => exact (Kd.R_reads' HO236.out).2.1); (case side5 => exact far_slice (IsS92.own_ne HI227.out HO236.out (by decide))); rintro e w44 ⟨v238, v241, rfl, ho0, ho1, hi, hb, hk⟩; refine ⟨_, rfl, ?_⟩; have n0_ := Ω5_3 (KeepBut.blk hk (g' := gb223) (o := .cells #[.slice none 0 0, .slice none 0 0] 39 (0, 0)) (by (with_reducible repeat (first | refine ΩA_3 ?_ _ | refine ΩC_3 ?_ | refine ΩB_3 ?_ _)); exact BK223.out) NB223_227.out (by simp)); have n1_ := Ω5_3 (ΩE_3 (Kd.R_told (Kd.R_told (Kd.R_oldK (IsS92.apart (show IsS92 w _ g227 t224 t232 t233 from by repeat (first | (with_reducible first | exact HI227.out | apply IsS92.alloc | apply IsS92.drewN | apply IsS92.drew | apply IsS92.set_1 | apply IsS92.set_2 | refine IsS92.far ?_ NB227_223.out _) | exact HI227.out)) (by (with_reducible repeat (first | apply Ω1_3 | apply Ω2_3 | apply Ω3_3)); exact HO236.out) (by decide)) hk) (Kd.R_base ho0)) (Kd.R_base ho1)) (fun _ h_ => h_.1)); have n2_ := Ω5_3 (Kd.R_lower (Kd.R_new' ho0 (Kd.R_lt (by (with_reducible repeat (first | apply Ω1_3 | apply Ω2_3 | apply Ω3_3)); exact HO236.out))) (below_size (by repeat (first | (with_reducible first | exact HB.out | apply Ω6_3 | apply Ω7_3 | apply Ω8_3 | refine Ω9_3 ?_ (IsS92.ge HI227.out) | refine Ω9_3 ?_ GE223.out) | exact HB.out)))); have n3_ := Ω5_3 (Kd.R_lower (Kd.R_new' ho1 (Kd.R_lt (by (with_reducible repeat (first | apply Ω1_3 | apply Ω2_3 | apply Ω3_3)); exact HO236.out))) (below_size (by repeat (first | (with_reducible first | exact HB.out | apply Ω6_3 | apply Ω7_3 | apply Ω8_3 | refine Ω9_3 ?_ (IsS92.ge HI227.out) | refine Ω9_3 ?_ GE223.out) | exact HB.out)))); have n4_ := Ω5_3 (hb); have n5_ := Ω5_3 (hi); clear BK223; clear HO236; clear HB; clear HI227; have BK223 := n0_; have HO236 := n1_; have HO239 := n2_; have HO242 := n3_; have HB := n4_; have HI227 := n5_; clear n0_ n1_ n2_ n3_ n4_ n5_; (try clear hb); (try clear hb2); (try clear hk); (try clear hi); (try clear ho0); (try clear ho1); obtain ⟨Ao45, co45, eo45⟩ := Kd.R_slice HO239.out; subst eo45; obtain ⟨Ao46, co46, eo46⟩ := Kd.R_slice HO242.out; subst eo46) | ((with_reducible refine gate_callee (f := 51) rfl ?_); refine goesL_ (some 19) rfl rfl Try.func51 (by kernel_rfl) rfl #[.pointer (some ⟨g227, 0, none⟩), .agg #[.slice Ao45 t237.length co45, .slice Ao46 t240.length co46]] rfl (by (try simp only [List.map_toArray, List.map_cons, List.map_nil]); first | done | rfl | (simp only [List.length_drop, List.length_take]; rfl)) ?_; (with_reducible refine (spec_l4Spoil.calls g227 t224 t243 t244 (fun k_ => some k_ = (.slice Ao45 t237.length co45 : Value).ownBlock) (.slice Ao45 t237.length co45) t237 (fun k_ => some k_ = (.slice Ao46 t240.length co46 : Value).ownBlock) (.slice Ao46 t240.length co46) t240 t245 t248 t251 t252 w _ ?side1 ?side2 ?side3 ?side4 ?side5 ?side6 A6.out).mono ?_); (case side1 => repeat (first | (with_reducible first | exact HI227.out | apply IsS92.alloc | apply IsS92.drewN | apply IsS92.drew | apply IsS92.set_1 | apply IsS92.set_2 | refine IsS92.far ?_ NB227_223.out _) | exact HI227.out)); (case side2 => repeat (first | (with_reducible first | exact HB.out | apply Ω6_3 | apply Ω7_3 | apply Ω8_3 | refine Ω9_3 ?_ (IsS92.ge HI227.out) | refine Ω9_3 ?_ GE223.out) | exact HB.out)); (case side3 => exact Kd.R_tight rfl HO239.out); (case side4 => exact fun k_ e_ => (HO239.out.1 k_ e_.symm).1); (case side5 => exact Kd.R_tight rfl HO242.out); (case side6 => exact fun k_ e_ => (HO242.out.1 k_ e_.symm).1); rintro e w47 ⟨v246, v249, rfl, ho0, ho1, hi, hb, hkp⟩; refine ⟨_, rfl, ?_⟩; have n0_ := Ω5_3 (blk_kept (by first | exact BK223.out | ((with_reducible repeat (first | refine ΩA_3 ?_ _ | refine ΩC_3 ?_ | refine ΩB_3 ?_ _)); exact BK223.out)) hkp (fun hs_ => Or.elim hs_ (fun hs_ => Or.elim hs_ (fun e_ => (fun e_ => (Kd.R_ne HO239.out BK223.out (by decide)) e_) e_) (fun e_ => (fun e_ => (Kd.R_ne HO242.out BK223.out (by decide)) e_) e_)) (fun e_ => NB223_227.out e_))); have n1_ := Ω5_3 (hi); have n2_ := Ω5_3 (ΩE_3 (ok' := fun k_ => some k_ ≠ (v246 : Value).ownBlock ∧ some k_ ≠ (v249 : Value).ownBlock) (Kd.R_keptB ((IsS92.apart HI227.out HO236.out (by decide))) hkp (fun k_ hk_ hs_ => Or.elim hs_ (fun hs_ => Or.elim hs_ (fun e_ => (hk_.1.1.2) e_) (fun e_ => (hk_.1.2) e_)) (fun e_ => (hk_.2) e_))) (fun k_ hk_ => ⟨fun e_ => Or.elim (ho0.1 k_ e_.symm).1 (fun hs_ => by first | exact hk_.2.1 hs_ | exact hk_.2.1 (Or.inl hs_)) (fun hn_ => Nat.not_le.2 hk_.2.2 hn_), fun e_ => Or.elim (ho1.1 k_ e_.symm).1 (fun hs_ => by first | exact hk_.2.1 hs_ | exact hk_.2.1 (Or.inl hs_)) (fun hn_ => Nat.not_le.2 hk_.2.2 hn_)⟩)); have n3_ := Ω5_3 (ΩE_3 (ok' := fun k_ => some k_ ≠ (v249 : Value).ownBlock ∧ some k_ ≠ (.slice Ao43 y234.length co43 : Value).ownBlock) ho0 (fun k_ hk_ => ⟨hk_.2, Or.elim hk_.1 (fun hs_ => Or.elim hs_ (fun hs_ => fun e_ => ((((IsS92.apart HI227.out HO236.out (by decide))).1 k_ e_.symm).1.1.2) hs_) (fun hs_ => fun e_ => ((((IsS92.apart HI227.out HO236.out (by decide))).1 k_ e_.symm).1.2) hs_)) (fun hn_ => (Kd.fresh' (Kd.R_lt (by (with_reducible repeat (first | apply Ω1_3 | apply Ω2_3 | apply Ω3_3)); exact HO236.out)) k_ hn_))⟩)); have n4_ := Ω5_3 (ΩE_3 (ok' := fun k_ => some k_ ≠ (v246 : Value).ownBlock ∧ some k_ ≠ (.slice Ao43 y234.length co43 : Value).ownBlock) ho1 (fun k_ hk_ => ⟨hk_.2, Or.elim hk_.1 (fun hs_ => Or.elim hs_ (fun hs_ => fun e_ => ((((IsS92.apart HI227.out HO236.out (by decide))).1 k_ e_.symm).1.1.2) hs_) (fun hs_ => fun e_ => ((((IsS92.apart HI227.out HO236.out (by decide))).1 k_ e_.symm).1.2) hs_)) (fun hn_ => (Kd.fresh' (Kd.R_lt (by (with_reducible repeat (first | apply Ω1_3 | apply Ω2_3 | apply Ω3_3)); exact HO236.out)) k_ hn_))⟩)); have n5_ := Ω5_3 (hb); clear BK223; clear HI227; clear HO236; clear HB; clear HO239; clear HO242; have BK223 := n0_; have HI227 := n1_; have HO236 := n2_; have HO247 := n3_; have HO250 := n4_; have HB := n5_; clear n0_ n1_ n2_ n3_ n4_ n5_; (try clear hb); (try clear hkp); (try clear ho0); (try clear ho1)) | ((with_reducible refine gate_dst (N := 5) rfl ?_); refine box_event ?hg (N := 5) ?hd (cs := #[.slice none 0 0, .slice none 0 0]) (t := 39) ?hr ?_; (case hd => rfl); (case hg => rfl); (case hr => first | (go_simp; done) | (go_simp; rfl)); intro gb253 hg w48 hbox hb; have n0_ := Ω5_3 (Kd.R_below (by (with_reducible repeat (first | apply Ω1_3 | apply Ω2_3 | apply Ω3_3)); exact HO236.out) hb); have n1_ := Ω5_3 (Kd.R_below (by (with_reducible repeat (first | apply Ω1_3 | apply Ω2_3 | apply Ω3_3)); exact HO247.out) hb); have n2_ := Ω5_3 (Kd.R_below (by (with_reducible repeat (first | apply Ω1_3 | apply Ω2_3 | apply Ω3_3)); exact HO250.out) hb); have n3_ := Ω5_3 (blk_below (g := gb223) (o := .cells #[.slice none 0 0, .slice none 0 0] 39 (0, 0)) (by (with_reducible repeat (first | refine ΩA_3 ?_ _ | refine ΩC_3 ?_ | refine ΩB_3 ?_ _)); exact BK223.out) hb); have n4_ := Ω5_3 (IsS92.below (by repeat (first | (with_reducible first | exact HI227.out | apply IsS92.alloc | apply IsS92.drewN | apply IsS92.drew | apply IsS92.set_1 | apply IsS92.set_2 | refine IsS92.far ?_ NB227_223.out _) | exact HI227.out)) hb); have n5_ := Ω5_3 (below_step (by repeat (first | (with_reducible first | exact HB.out | apply Ω6_3 | apply Ω7_3 | apply Ω8_3 | refine Ω9_3 ?_ (IsS92.ge HI227.out) | refine Ω9_3 ?_ GE223.out) | exact HB.out)) hb); have n6_ := Ω5_3 (hbox); have n7_ := Ω5_3 ((by rw [hg]; exact (below_size (by repeat (first | (with_reducible first | exact HB.out | apply Ω6_3 | apply Ω7_3 | apply Ω8_3 | refine Ω9_3 ?_ (IsS92.ge HI227.out) | refine Ω9_3 ?_ GE223.out) | exact HB.out))) : w.heap.size ≤ gb253)); have n8_ := Ω5_3 ((by rw [hg]; exact (below_size (by repeat (first | (with_reducible first | exact HB.out | apply Ω6_3 | apply Ω7_3 | apply Ω8_3 | refine Ω9_3 ?_ (IsS92.ge HI227.out) | refine Ω9_3 ?_ GE223.out) | exact HB.out))) : w.heap.size ≤ gb253)); have n9_ := Ω5_3 ((by rw [hg]; exact Nat.ne_of_lt (blk_lt (g := gb223) (o := .cells #[.slice none 0 0, .slice none 0 0] 39 (0, 0)) (by (with_reducible repeat (first | refine ΩA_3 ?_ _ | refine ΩC_3 ?_ | refine ΩB_3 ?_ _)); exact BK223.out)) : gb223 ≠ gb253)); have n10_ := Ω5_3 ((by rw [hg]; exact Nat.ne_of_gt (blk_lt (g := gb223) (o := .cells #[.slice none 0 0, .slice none 0 0] 39 (0, 0)) (by (with_reducible repeat (first | refine ΩA_3 ?_ _ | refine ΩC_3 ?_ | refine ΩB_3 ?_ _)); exact BK223.out)) : gb253 ≠ gb223)); have n11_ := Ω5_3 ((by rw [hg]; exact Nat.ne_of_lt (IsS92.lt (show IsS92 w _ g227 t224 t251 t252 from by repeat (first | (with_reducible first | exact HI227.out | apply IsS92.alloc | apply IsS92.drewN | apply IsS92.drew | apply IsS92.set_1 | apply IsS92.set_2 | refine IsS92.far ?_ NB227_223.out _) | exact HI227.out))) : g227 ≠ gb253)); have n12_ := Ω5_3 ((by rw [hg]; exact Nat.ne_of_gt (IsS92.lt (show IsS92 w _ g227 t224 t251 t252 from by repeat (first | (with_reducible first | exact HI227.out | apply IsS92.alloc | apply IsS92.drewN | apply IsS92.drew | apply IsS92.set_1 | apply IsS92.set_2 | refine IsS92.far ?_ NB227_223.out _) | exact HI227.out))) : gb253 ≠ g227)); clear HO236; clear HO247; clear HO250; clear BK223; clear HI227; clear HB; have HO236 := n0_; have HO247 := n1_; have HO250 := n2_; have BK223 := n3_; have HI227 := n4_; have HB := n5_; have BK253 := n6_; have GW253 := n7_; have GE253 := n8_; have NB223_253 := n9_; have NB253_223 := n10_; have NB227_253 := n11_; have NB253_227 := n12_; clear n0_ n1_ n2_ n3_ n4_ n5_ n6_ n7_ n8_ n9_ n10_ n11_ n12_; clear hb hbox hg; obtain ⟨Ao49, co49, eo49⟩ := Kd.R_slice HO247.out; subst eo49; have hnb50 := NB253_223.out; have hnc50 := NB223_253.out; have hnb51 := NB253_227.out; have hnc51 := NB227_253.out; have hcz52_0 : w48.cell? ⟨gb253, 0, none⟩ = some (.slice none 0 0) := (blk_cell BK253.out 0).trans rfl; have hcz52_1 : w48.cell? ⟨gb253, 1, none⟩ = some (.slice none 0 0) := (blk_cell BK253.out 1).trans rfl; have hfz52_0 := blk_frozen BK253.out 0; have hfz52_1 := blk_frozen BK253.out 1; obtain ⟨Ao53, co53, eo53⟩ := Kd.R_slice HO250.out; subst eo53) | ((with_reducible refine gate_callee (f := 53) rfl ?_); refine goesL_ (some 21) rfl rfl Try.func53 (by kernel_rfl) rfl #[.pointer (some ⟨g227, 0, none⟩), .int .i64 4] rfl (by (try simp only [List.map_toArray, List.map_cons, List.map_nil]); first | done | rfl | (simp only [List.length_drop, List.length_take]; rfl)) ?_; (with_reducible refine (spec_l1Below.calls g227 t224 t251 t252 4 t254 t255 t256 w _ ?side1 ?side2 A7.out).mono ?_); (case side1 => repeat (first | (with_reducible first | exact HI227.out | apply IsS92.alloc | apply IsS92.drewN | apply IsS92.drew | apply IsS92.set_1 | apply IsS92.set_2 | refine IsS92.far ?_ NB227_223.out _ | refine IsS92.far ?_ NB227_253.out _) | exact HI227.out)); (case side2 => repeat (first | (with_reducible first | exact HB.out | apply Ω6_3 | apply Ω7_3 | apply Ω8_3 | refine Ω9_3 ?_ (IsS92.ge HI227.out) | refine Ω9_3 ?_ GE223.out | refine Ω9_3 ?_ GE253.out) | exact HB.out)); rintro e w54 ⟨rfl, hi, hb, hk⟩; refine ⟨_, rfl, ?_⟩; have n0_ := Ω5_3 (KeepBut.blk hk (g' := gb223) (o := .cells #[.slice none 0 0, .slice none 0 0] 39 (0, 0)) (by (with_reducible repeat (first | refine ΩA_3 ?_ _ | refine ΩC_3 ?_ | refine ΩB_3 ?_ _)); refine blk_far ?_ NB223_253.out _; (with_reducible repeat (first | refine ΩA_3 ?_ _ | refine ΩC_3 ?_ | refine ΩB_3 ?_ _)); refine blk_far ?_ NB223_253.out _; (with_reducible repeat (first | refine ΩA_3 ?_ _ | refine ΩC_3 ?_ | refine ΩB_3 ?_ _)); exact BK223.out) NB223_227.out (by simp)); have n1_ := Ω5_3 (ΩE_3 (Kd.R_keep (IsS92.apart (show IsS92 w _ g227 t224 t251 t252 from by repeat (first | (with_reducible first | exact HI227.out | apply IsS92.alloc | apply IsS92.drewN | apply IsS92.drew | apply IsS92.set_1 | apply IsS92.set_2 | refine IsS92.far ?_ NB227_223.out _ | refine IsS92.far ?_ NB227_253.out _) | exact HI227.out)) (by (with_reducible repeat (first | apply Ω1_3 | apply Ω2_3 | apply Ω3_3)); exact (ΩE_3 (Kd.R_far (p := ⟨gb253, 1, none⟩) (Kd.R_far (p := ⟨gb253, 0, none⟩) (Kd.R_types HO236.out BK253.out (by decide)) (fun _ hk => hk.2) (.slice Ao49 t245.length co49)) (fun _ hk => hk.2) (.slice Ao53 t248.length co53)) (fun _ h_ => h_.1))) (by decide)) hk (fun _ h => h.2)) (fun _ h => h.1)); have n2_ := Ω5_3 (ΩE_3 (Kd.R_keep (IsS92.apart (show IsS92 w _ g227 t224 t251 t252 from by repeat (first | (with_reducible first | exact HI227.out | apply IsS92.alloc | apply IsS92.drewN | apply IsS92.drew | apply IsS92.set_1 | apply IsS92.set_2 | refine IsS92.far ?_ NB227_223.out _ | refine IsS92.far ?_ NB227_253.out _) | exact HI227.out)) (by (with_reducible repeat (first | apply Ω1_3 | apply Ω2_3 | apply Ω3_3)); exact (ΩE_3 (Kd.R_far (p := ⟨gb253, 1, none⟩) (Kd.R_far (p := ⟨gb253, 0, none⟩) (Kd.R_types HO247.out BK253.out (by decide)) (fun _ hk => hk.2) (.slice Ao49 t245.length co49)) (fun _ hk => hk.2) (.slice Ao53 t248.length co53)) (fun _ h_ => h_.1))) (by decide)) hk (fun _ h => h.2)) (fun _ h => h.1)); have n3_ := Ω5_3 (ΩE_3 (Kd.R_keep (IsS92.apart (show IsS92 w _ g227 t224 t251 t252 from by repeat (first | (with_reducible first | exact HI227.out | apply IsS92.alloc | apply IsS92.drewN | apply IsS92.drew | apply IsS92.set_1 | apply IsS92.set_2 | refine IsS92.far ?_ NB227_223.out _ | refine IsS92.far ?_ NB227_253.out _) | exact HI227.out)) (by (with_reducible repeat (first | apply Ω1_3 | apply Ω2_3 | apply Ω3_3)); exact (ΩE_3 (Kd.R_far (p := ⟨gb253, 1, none⟩) (Kd.R_far (p := ⟨gb253, 0, none⟩) (Kd.R_types HO250.out BK253.out (by decide)) (fun _ hk => hk.2) (.slice Ao49 t245.length co49)) (fun _ hk => hk.2) (.slice Ao53 t248.length co53)) (fun _ h_ => h_.1))) (by decide)) hk (fun _ h => h.2)) (fun _ h => h.1)); have n4_ := Ω5_3 (KeepBut.blk hk (g' := gb253) (o := .cells #[.slice Ao49 t245.length co49, .slice Ao53 t248.length co53] 39 (0, 0)) (by (with_reducible repeat (first | refine ΩA_3 ?_ _ | refine ΩC_3 ?_ | refine ΩB_3 ?_ _)); refine blk_put (cs := #[.slice Ao49 t245.length co49, .slice none 0 0]) ?_ 1 _ rfl; (with_reducible repeat (first | refine ΩA_3 ?_ _ | refine ΩC_3 ?_ | refine ΩB_3 ?_ _)); refine blk_put (cs := #[.slice none 0 0, .slice none 0 0]) ?_ 0 _ rfl; (with_reducible repeat (first | refine ΩA_3 ?_ _ | refine ΩC_3 ?_ | refine ΩB_3 ?_ _)); exact BK253.out) NB253_227.out (by simp)); have n5_ := Ω5_3 (hb); have n6_ := Ω5_3 (hi); clear BK223; clear HO236; clear HO247; clear HO250; clear BK253; clear HB; clear HI227; have BK223 := n0_; have HO236 := n1_; have HO247 := n2_; have HO250 := n3_; have BK253 := n4_; have HB := n5_; have HI227 := n6_; clear n0_ n1_ n2_ n3_ n4_ n5_ n6_; (try clear hb); (try clear hb2); (try clear hk); (try clear hi)) | ((with_reducible refine gate_callee (f := 54) rfl ?_); refine goesL_ (some 24) rfl rfl Try.func54 (by kernel_rfl) rfl #[.pointer (some ⟨g227, 0, none⟩), .int .i64 30] rfl (by (try simp only [List.map_toArray, List.map_cons, List.map_nil]); first | done | rfl | (simp only [List.length_drop, List.length_take]; rfl)) ?_; (with_reducible refine (spec_l1Once.calls g227 t224 t255 t256 30 false t258 t259 w _ ?side1 ?side2 A8.out).mono ?_); (case side1 => repeat (first | (with_reducible first | exact HI227.out | apply IsS92.alloc | apply IsS92.drewN | apply IsS92.drew | apply IsS92.set_1 | apply IsS92.set_2 | refine IsS92.far ?_ NB227_223.out _ | refine IsS92.far ?_ NB227_253.out _) | exact HI227.out)); (case side2 => repeat (first | (with_reducible first | exact HB.out | apply Ω6_3 | apply Ω7_3 | apply Ω8_3 | refine Ω9_3 ?_ (IsS92.ge HI227.out) | refine Ω9_3 ?_ GE223.out | refine Ω9_3 ?_ GE253.out) | exact HB.out)); rintro e w55 ⟨rfl, hi, hb, hk⟩; refine ⟨_, rfl, ?_⟩; have n0_ := Ω5_3 (KeepBut.blk hk (g' := gb223) (o := .cells #[.slice none 0 0, .slice none 0 0] 39 (0, 0)) (by (with_reducible repeat (first | refine ΩA_3 ?_ _ | refine ΩC_3 ?_ | refine ΩB_3 ?_ _)); exact BK223.out) NB223_227.out (by simp)); have n1_ := Ω5_3 (ΩE_3 (Kd.R_keep (IsS92.apart (show IsS92 w _ g227 t224 t255 t256 from by repeat (first | (with_reducible first | exact HI227.out | apply IsS92.alloc | apply IsS92.drewN | apply IsS92.drew | apply IsS92.set_1 | apply IsS92.set_2 | refine IsS92.far ?_ NB227_223.out _ | refine IsS92.far ?_ NB227_253.out _) | exact HI227.out)) (by (with_reducible repeat (first | apply Ω1_3 | apply Ω2_3 | apply Ω3_3)); exact HO236.out) (by decide)) hk (fun _ h => h.2)) (fun _ h => h.1)); have n2_ := Ω5_3 (ΩE_3 (Kd.R_keep (IsS92.apart (show IsS92 w _ g227 t224 t255 t256 from by repeat (first | (with_reducible first | exact HI227.out | apply IsS92.alloc | apply IsS92.drewN | apply IsS92.drew | apply IsS92.set_1 | apply IsS92.set_2 | refine IsS92.far ?_ NB227_223.out _ | refine IsS92.far ?_ NB227_253.out _) | exact HI227.out)) (by (with_reducible repeat (first | apply Ω1_3 | apply Ω2_3 | apply Ω3_3)); exact HO247.out) (by decide)) hk (fun _ h => h.2)) (fun _ h => h.1)); have n3_ := Ω5_3 (ΩE_3 (Kd.R_keep (IsS92.apart (show IsS92 w _ g227 t224 t255 t256 from by repeat (first | (with_reducible first | exact HI227.out | apply IsS92.alloc | apply IsS92.drewN | apply IsS92.drew | apply IsS92.set_1 | apply IsS92.set_2 | refine IsS92.far ?_ NB227_223.out _ | refine IsS92.far ?_ NB227_253.out _) | exact HI227.out)) (by (with_reducible repeat (first | apply Ω1_3 | apply Ω2_3 | apply Ω3_3)); exact HO250.out) (by decide)) hk (fun _ h => h.2)) (fun _ h => h.1)); have n4_ := Ω5_3 (KeepBut.blk hk (g' := gb253) (o := .cells #[.slice Ao49 t245.length co49, .slice Ao53 t248.length co53] 39 (0, 0)) (by (with_reducible repeat (first | refine ΩA_3 ?_ _ | refine ΩC_3 ?_ | refine ΩB_3 ?_ _)); exact BK253.out) NB253_227.out (by simp)); have n5_ := Ω5_3 (hb); have n6_ := Ω5_3 (hi); clear BK223; clear HO236; clear HO247; clear HO250; clear BK253; clear HB; clear HI227; have BK223 := n0_; have HO236 := n1_; have HO247 := n2_; have HO250 := n3_; have BK253 := n4_; have HB := n5_; have HI227 := n6_; clear n0_ n1_ n2_ n3_ n4_ n5_ n6_; (try clear hb); (try clear hb2); (try clear hk); (try clear hi); have hcz56_0 : w55.cell? ⟨gb253, 0, none⟩ = some (.slice Ao49 t245.length co49) := (blk_cell BK253.out 0).trans rfl; have hcz56_1 : w55.cell? ⟨gb253, 1, none⟩ = some (.slice Ao53 t248.length co53) := (blk_cell BK253.out 1).trans rfl; have hfz56_0 := blk_frozen BK253.out 0; have hfz56_1 := blk_frozen BK253.out 1; have hnb57 := NB223_227.out; have hnc57 := NB227_223.out; have hcz58_0 : w55.cell? ⟨gb223, 0, none⟩ = some (.slice none 0 0) := (blk_cell BK223.out 0).trans rfl; have hcz58_1 : w55.cell? ⟨gb223, 1, none⟩ = some (.slice none 0 0) := (blk_cell BK223.out 1).trans rfl; have hfz58_0 := blk_frozen BK223.out 0; have hfz58_1 := blk_frozen BK223.out 1))
  refine bodyPost_ret (results_ct rfl _ _ gb223 39 #[.slice Ao49 t245.length co49, .slice Ao53 t248.length co53] (0, 0) _ rfl (by (with_reducible repeat (first | refine ΩA_3 ?_ _ | refine ΩC_3 ?_ | refine ΩB_3 ?_ _)); refine blk_put (cs := #[.slice Ao49 t245.length co49, .slice none 0 0]) ?_ 1 _ rfl; (with_reducible repeat (first | refine ΩA_3 ?_ _ | refine ΩC_3 ?_ | refine ΩB_3 ?_ _)); refine blk_put (cs := #[.slice none 0 0, .slice none 0 0]) ?_ 0 _ rfl; (with_reducible repeat (first | refine ΩA_3 ?_ _ | refine ΩC_3 ?_ | refine ΩB_3 ?_ _)); exact BK223.out) Try.underlying39 rfl (by kernel_rfl)) rfl ?_
  exact ⟨_, _, by first | rfl | (simp [errW_none, errW_some] <;> rfl) | (simp [*, errW_none, errW_some] <;> rfl), by (with_reducible repeat (first | apply Ω1_3 | apply Ω2_3 | apply Ω3_3)); exact ΩE_3 (Kd.R_far (p := ⟨gb223, 1, none⟩) (Kd.R_far (p := ⟨gb223, 0, none⟩) (Kd.R_types HO247.out BK223.out (by decide)) (fun _ hk => hk.2) (.slice Ao49 t245.length co49)) (fun _ hk => hk.2) (.slice Ao53 t248.length co53)) (fun _ hk => hk.1.1), by (with_reducible repeat (first | apply Ω1_3 | apply Ω2_3 | apply Ω3_3)); exact ΩE_3 (Kd.R_far (p := ⟨gb223, 1, none⟩) (Kd.R_far (p := ⟨gb223, 0, none⟩) (Kd.R_types HO250.out BK223.out (by decide)) (fun _ hk => hk.2) (.slice Ao49 t245.length co49)) (fun _ hk => hk.2) (.slice Ao53 t248.length co53)) (fun _ hk => hk.1.1), by repeat (first | (with_reducible first | exact HB.out | apply Ω6_3 | apply Ω7_3 | apply Ω8_3 | refine Ω9_3 ?_ (IsS92.ge HI227.out) | refine Ω9_3 ?_ GE223.out | refine Ω9_3 ?_ GE253.out) | exact HB.out)⟩

/-! ### impl_DimsOk: function 83 -/
mutual
def impl_DimsOk.l0 : Nat → List Int → Int → List Int → Int → Int → Option (Bool)
 | 0, _, _, _, _, _ => none
 | k + 1, x0, x3, x6, x7, x8 => if x8 < x7 then (if 0 ≤ x8 then (if x8 < (x6.length : Int) then (if (rd x6 x8) < 1 then (impl_DimsOk.j1 k x0 x3 (rd x6 x8) x6 x7 x8 true) else (impl_DimsOk.j1 k x0 x3 (rd x6 x8) x6 x7 x8 (decide ((rd x6 x8) > 4096)))) else (none)) else (none)) else (some (decide ((x0.length : Int) ≤ 6)))
def impl_DimsOk.j1 : Nat → List Int → Int → Int → List Int → Int → Int → Bool → Option (Bool)
 | 0, _, _, _, _, _, _, _ => none
 | k + 1, x0, x3, x5, x6, x7, x8, x17 => if x17 = true then (some false) else (if (wrap64 (x3 * x5)) > 4096 then (some false) else (impl_DimsOk.l0 k x0 (wrap64 (x3 * x5)) x6 x7 (wrap64 (x8 + 1))))
end
def impl_DimsOk.f (k : Nat) (l0 : List Int) : Option (Bool) := impl_DimsOk.l0 k l0 1 l0 (l0.length : Int) 0
theorem impl_DimsOk.mono_l : ∀ k, (∀ y0 y1 y2 y3 y4, LeO (impl_DimsOk.l0 k y0 y1 y2 y3 y4) (impl_DimsOk.l0 (k + 1) y0 y1 y2 y3 y4)) ∧ (∀ y0 y1 y2 y3 y4 y5 y6, LeO (impl_DimsOk.j1 k y0 y1 y2 y3 y4 y5 y6) (impl_DimsOk.j1 (k + 1) y0 y1 y2 y3 y4 y5 y6))
 | 0 => ⟨fun _ _ _ _ _ r h => by simp [impl_DimsOk.l0] at h, fun _ _ _ _ _ _ _ r h => by simp [impl_DimsOk.j1] at h⟩
 | k + 1 => by
  obtain ⟨ih0, ih1⟩ := impl_DimsOk.mono_l k
  refine ⟨?_, ?_⟩
  ·intro y0 y1 y2 y3 y4
   unfold impl_DimsOk.l0
   repeat' first
   | (with_reducible exact ih0 _ _ _ _ _)
   | (with_reducible exact ih1 _ _ _ _ _ _ _)
   | (with_reducible exact LeO.refl _)
   | (with_reducible exact LeO.none _)
   | (with_reducible refine LeO.ite ?_ ?_)
   | (with_reducible refine LeO.bind ?_ (fun _ => ?_))
   | exact ih0 _ _ _ _ _
   | exact ih1 _ _ _ _ _ _ _
   | exact LeO.none _
   | refine LeO.ite ?_ ?_
   | refine LeO.bind ?_ (fun _ => ?_)
  ·intro y0 y1 y2 y3 y4 y5 y6
   unfold impl_DimsOk.j1
   repeat' first
   | (with_reducible exact ih0 _ _ _ _ _)
   | (with_reducible exact ih1 _ _ _ _ _ _ _)
   | (with_reducible exact LeO.refl _)
   | (with_reducible exact LeO.none _)
   | (with_reducible refine LeO.ite ?_ ?_)
   | (with_reducible refine LeO.bind ?_ (fun _ => ?_))
   | exact ih0 _ _ _ _ _
   | exact ih1 _ _ _ _ _ _ _
   | exact LeO.none _
   | refine LeO.ite ?_ ?_
   | refine LeO.bind ?_ (fun _ => ?_)
theorem impl_DimsOk.mono : ∀ a0 k, LeO (impl_DimsOk.f k a0) (impl_DimsOk.f (k + 1) a0) := by
 intro a0 k
 obtain ⟨ih0, ih1⟩ := impl_DimsOk.mono_l k
 unfold impl_DimsOk.f
 repeat' first
   | (with_reducible exact ih0 _ _ _ _ _)
   | (with_reducible exact ih1 _ _ _ _ _ _ _)
   | (with_reducible exact LeO.refl _)
   | (with_reducible exact LeO.none _)
   | (with_reducible refine LeO.ite ?_ ?_)
   | (with_reducible refine LeO.bind ?_ (fun _ => ?_))
   | exact ih0 _ _ _ _ _
   | exact ih1 _ _ _ _ _ _ _
   | exact LeO.none _
   | refine LeO.ite ?_ ?_
   | refine LeO.bind ?_ (fun _ => ?_)
set_option maxHeartbeats 8000000 in
set_option maxRecDepth 100000 in
theorem impl_DimsOk.calls (k : Nat) (A0 : Option Addr) (c0 : Nat) (l0 : List Int) (r : Bool) (w : World) (hr0 : Kd.C (Kd.int .i64) w A0 l0.length l0) (hc0 : l0.length ≤ c0) (h : impl_DimsOk.f k l0 = some r) :
  Calls Try.prog 83 #[.slice A0 l0.length c0] w fun e w' => e = .returned (.bool r) ∧ Drawn0 w w' := by
 have HR0 := Ω5_3 hr0
 have HC0 := Ω5_3 hc0
 clear hr0 hc0
 have H : (impl_DimsOk.l0 k l0 1 l0 (l0.length : Int) 0) = some r := h
 clear h
 have H' := Ω5_3 H
 clear H
 go_enter Try.func83, Try.ntmps83
 go_wp2
 go_loopg [3, 8] k (fun kq v3 v8 w' => ∃ (x3_1 : Int) (x8_1 : Int), v3 = .int .i64 x3_1 ∧ v8 = .int .i64 x8_1 ∧ Aside0 (impl_DimsOk.l0 kq l0 x3_1 l0 (l0.length : Int) x8_1 = some r) ∧ Aside0 (kq ≤ k) ∧ Drawn0 w w')
 case atStart => exact ⟨(1), (0), (by first | rfl | (simp; done) | (simp [*]; done)), (by first | rfl | (simp; done) | (simp [*]; done)), H', ⟨Nat.le_refl _⟩, by repeat (first | exact Drawn0.refl _ | apply Drawn0.step)⟩
 case round =>
  clear H'
  obtain ⟨x3_1, x8_1, rfl, rfl, HA, HK1, ⟨m1, rfl⟩⟩ := hrel
  cases gk with
  | zero => exact absurd HA.out (by simp [impl_DimsOk.l0])
  | succ k1 =>
   have H := HA.out
   clear HA
   simp only [impl_DimsOk.l0] at H
   by_cases c2 : x8_1 < (l0.length : Int)
   ·rw [if_pos c2] at H
    have c2b0 : decide (x8_1 < (l0.length : Int)) = true := decide_eq_true c2
    clear c2
    by_cases c3 : 0 ≤ x8_1
    ·rw [if_pos c3] at H
     have c3b0 : decide (0 ≤ x8_1) = true := decide_eq_true c3
     clear c3
     by_cases c4 : x8_1 < (l0.length : Int)
     ·rw [if_pos c4] at H
      have c4b0 : decide (x8_1 < (l0.length : Int)) = true := decide_eq_true c4
      clear c4
      have HC5 := Ω5_3 H
      clear H
      have p266 : 0 ≤ (x8_1 : Int) := of_decide_eq_true (by first | (with_reducible assumption) | assumption)
      have q266 : x8_1 < (l0.length : Int) := of_decide_eq_true (by first | (with_reducible assumption) | assumption)
      obtain ⟨ad266, e266, hx266_0⟩ := Kd.at_int HR0.out x8_1 p266 q266
      cases e266
      replace p266 := eq_true p266
      replace q266 := eq_true q266
      go_upto_region 5 with (fail)
      go_cut [17] (fun v17 wc => ∃ (kq : Nat) (x17_4 : Bool), v17 = .bool x17_4 ∧ Aside0 (impl_DimsOk.j1 kq l0 x3_1 (rd l0 x8_1) l0 (l0.length : Int) x8_1 x17_4 = some r) ∧ Aside0 (kq ≤ k1) ∧ Drawn0 w wc)
      case first =>
       have H := HC5.out
       clear HC5
       by_cases c6 : (rd l0 x8_1) < 1
       ·rw [if_pos c6] at H
        have c6b0 : decide ((rd l0 x8_1) < 1) = true := decide_eq_true c6
        clear c6
        (first | rw [c6b0] | (simp only [i64_w, i32_w]; rw [c6b0]) | skip)
        have H' := Ω5_3 H
        clear H
        go_wp2
        go_meet
        case rel => exact ⟨_, (true), (by first | rfl | (simp; done) | (simp [*]; done)), H', ⟨by have := HK1.out; first | omega | exact Nat.le_refl _⟩, by repeat (first | exact Drawn0.refl _ | apply Drawn0.step)⟩
       ·rw [if_neg c6] at H
        have c6b0 : decide ((rd l0 x8_1) < 1) = false := decide_eq_false c6
        clear c6
        (first | rw [c6b0] | (simp only [i64_w, i32_w]; rw [c6b0]) | skip)
        have H' := Ω5_3 H
        clear H
        go_wp2
        go_meet
        case rel => exact ⟨_, (decide ((rd l0 x8_1) > 4096)), (by first | rfl | (simp; done) | (simp [*]; done)), H', ⟨by have := HK1.out; first | omega | exact Nat.le_refl _⟩, by repeat (first | exact Drawn0.refl _ | apply Drawn0.step)⟩
      case rest =>
       clear HC5
       try clear c2
       try clear c2b0
       try clear p2
       try clear q2
       try clear hx2
       try clear c3
       try clear c3b0
       try clear c4
       try clear c4b0
       try clear c6
       try clear c6b0
       try clear hx266_0
       try clear p266
       try clear q266
       obtain ⟨kq, x17_4, rfl, HA, HJ4, ⟨mc4, rfl⟩⟩ := hcut
       cases kq with
       | zero => exact absurd HA.out (by simp [impl_DimsOk.j1])
       | succ kj4 =>
        have H := HA.out
        clear HA
        simp only [impl_DimsOk.j1] at H
        by_cases c7 : x17_4 = true
        ·subst c7
         have H1 : (some false) = some r := by rw [if_pos rfl] at H; exact H
         clear H
         have H := H1
         clear H1
         obtain rfl := Option.some.inj H
         go_wp2
         go_ret
         exact ⟨by first | rfl | (simp; done) | (simp [*]; done), by repeat (first | exact Drawn0.refl _ | apply Drawn0.step)⟩
        ·replace c7 := Bool.eq_false_iff.mpr c7
         subst c7
         have H1 : (if (wrap64 (x3_1 * (rd l0 x8_1))) > 4096 then (some false) else (impl_DimsOk.l0 kj4 l0 (wrap64 (x3_1 * (rd l0 x8_1))) l0 (l0.length : Int) (wrap64 (x8_1 + 1)))) = some r := by rw [if_neg (show ¬ (false = true) by decide)] at H; exact H
         clear H
         have H := H1
         clear H1
         by_cases c8 : (wrap64 (x3_1 * (rd l0 x8_1))) > 4096
         ·rw [if_pos c8] at H
          have c8b0 : decide (4096 < (wrap64 (x3_1 * (rd l0 x8_1)))) = true := decide_eq_true c8
          clear c8
          obtain rfl := Option.some.inj H
          go_wp2
          go_ret
          exact ⟨by first | rfl | (simp; done) | (simp [*]; done), by repeat (first | exact Drawn0.refl _ | apply Drawn0.step)⟩
         ·rw [if_neg c8] at H
          have c8b0 : decide (4096 < (wrap64 (x3_1 * (rd l0 x8_1)))) = false := decide_eq_false c8
          clear c8
          have H' := Ω5_3 H
          clear H
          go_wp2
          go_roundg kj4
          case measure => have := HK1.out; have := HJ4.out; omega
          case rel => exact ⟨(wrap64 (x3_1 * (rd l0 x8_1))), (wrap64 (x8_1 + 1)), (by first | rfl | (simp; done) | (simp [*]; done)), (by first | rfl | (simp; done) | (simp [*]; done)), H', ⟨by have := HK1.out; have := HJ4.out; omega⟩, by repeat (first | exact Drawn0.refl _ | apply Drawn0.step)⟩
     ·rw [if_neg c4] at H
      exact absurd H (by simp)
    ·rw [if_neg c3] at H
     exact absurd H (by simp)
   ·rw [if_neg c2] at H
    have c2b0 : decide (x8_1 < (l0.length : Int)) = false := decide_eq_false c2
    clear c2
    obtain rfl := Option.some.inj H
    go_wp2
    go_ret
    exact ⟨by first | rfl | (simp; done) | (simp [*]; done), by repeat (first | exact Drawn0.refl _ | apply Drawn0.step)⟩

end Go.Proofs.Ytcpemdedmepfeaa.PFnRouted
