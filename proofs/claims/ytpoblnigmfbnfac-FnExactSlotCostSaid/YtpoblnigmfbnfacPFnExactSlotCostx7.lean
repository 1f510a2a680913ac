-- Printed out of the translation, hand-written contracts beside it; checked by the kernel alone.
import Derived.Test.YtpoblnigmfbnfacPFnExactSlotCostx0
import Derived.Test.YtpoblnigmfbnfacPFnExactSlotCostx6
namespace Go.Proofs.Ytpoblnigmfbnfac.PFnExactSlotCost
open Go.RowKit Go.Proofs.YtpoblnigmfbnfacW.PrintWords Go.Proofs.YtpoblnigmfbnfacW.PrintLast Go.Proofs.YtpoblnigmfbnfacW.PrintMore
attribute [local go_sem] max2_int min2_int max_two min_two max_three min_three max_four min_four   -- for this text's walks alone
set_option linter.unusedVariables false
set_option linter.unusedSimpArgs false

/-! ### laws_eqSlotS: function 35 -/
def laws_eqSlotS.l0 : Nat → List (S82) → List (S82) → Int → Option (Bool)
  | 0, _, _, _ => none
  | k + 1, x0, x1, x5 => if x5 < (x0.length : Int) then (if 0 ≤ x5 then (if x5 < (x1.length : Int) then ((laws_eqSlot.f ((rd_T82 x0 x5).f0) ((rd_T82 x0 x5).f1) ((rd_T82 x0 x5).f2) ((rd_T82 x0 x5).f3) ((rd_T82 x1 x5).f0) ((rd_T82 x1 x5).f1) ((rd_T82 x1 x5).f2) ((rd_T82 x1 x5).f3)).bind fun t197 => (if t197 = true then (laws_eqSlotS.l0 k x0 x1 (wrap64 (x5 + 1))) else (some false))) else (none)) else (none)) else (some true)
def laws_eqSlotS.f (k : Nat) (l0 : List (S82)) (l1 : List (S82)) : Option (Bool) := if (l0.length : Int) = (l1.length : Int) then (laws_eqSlotS.l0 k l0 l1 0) else (some false)
theorem laws_eqSlotS.mono_l : ∀ k, (∀ y0 y1 y2, LeO (laws_eqSlotS.l0 k y0 y1 y2) (laws_eqSlotS.l0 (k + 1) y0 y1 y2))
  | 0 => fun _ _ _ r h => by simp [laws_eqSlotS.l0] at h
  | k + 1 => by
    have ih0 := laws_eqSlotS.mono_l k
    · intro y0 y1 y2
      unfold laws_eqSlotS.l0
      repeat' first
      | (with_reducible exact ih0 _ _ _)
      | (with_reducible exact LeO.refl _)
      | (with_reducible exact LeO.none _)
      | (with_reducible refine LeO.ite ?_ ?_)
      | (with_reducible refine LeO.bind ?_ (fun _ => ?_))
      | exact ih0 _ _ _
      | exact LeO.none _
      | refine LeO.ite ?_ ?_
      | refine LeO.bind ?_ (fun _ => ?_)
theorem laws_eqSlotS.mono : ∀ a0 a1 k, LeO (laws_eqSlotS.f k a0 a1) (laws_eqSlotS.f (k + 1) a0 a1) := by
  intro a0 a1 k
  have ih0 := laws_eqSlotS.mono_l k
  unfold laws_eqSlotS.f
  repeat' first
      | (with_reducible exact ih0 _ _ _)
      | (with_reducible exact LeO.refl _)
      | (with_reducible exact LeO.none _)
      | (with_reducible refine LeO.ite ?_ ?_)
      | (with_reducible refine LeO.bind ?_ (fun _ => ?_))
      | exact ih0 _ _ _
      | exact LeO.none _
      | refine LeO.ite ?_ ?_
      | refine LeO.bind ?_ (fun _ => ?_)
def laws_eqSlotS.T6 : Bool × List (List Nat × List Nat) := (true, [([], []), ([], []), ([0, 1], [0, 1]), ([2], [2]), ([], []), ([], []), ([4, 5], [4, 5]), ([6], [6]), ([3, 7], [3, 7]), ([8], [8])])
def laws_eqSlotS.B6 : List Nat := [0, 0, 3, 7, 0, 0, 48, 112, 255, 511]
theorem laws_eqSlotS.tab6 : rtab .any (opsOf Try.f35 6) = laws_eqSlotS.T6 := by kernel_rfl
theorem laws_eqSlotS.bits6 : waitsOk laws_eqSlotS.T6.2 laws_eqSlotS.B6 = true := by kernel_rfl
set_option maxHeartbeats 8000000 in
set_option maxRecDepth 100000 in
theorem laws_eqSlotS.calls (k : Nat) (A0 : Option Addr) (c0 : Nat) (l0 : List (S82)) (A1 : Option Addr) (c1 : Nat) (l1 : List (S82)) (r : Bool) (w : World) (hr0 : Kd.C k82 w A0 l0.length l0) (hc0 : l0.length ≤ c0) (hr1 : Kd.C k82 w A1 l1.length l1) (hc1 : l1.length ≤ c1) (h : laws_eqSlotS.f k l0 l1 = some r) :
    Calls Try.prog 35 #[.slice A0 l0.length c0, .slice A1 l1.length c1] w fun e w' => e = .returned (.bool r) ∧ Below w.heap.size w w' := by
  have hu82 := Try.underlying82
  have HR0 := Aside0.mk hr0
  have HC0 := Aside0.mk hc0
  clear hr0 hc0
  have HR1 := Aside0.mk hr1
  have HC1 := Aside0.mk hc1
  clear hr1 hc1
  have HB := Aside0.mk (Below.refl w.heap.size w)
  have H : (if (l0.length : Int) = (l1.length : Int) then (laws_eqSlotS.l0 k l0 l1 0) else (some false)) = some r := h
  clear h
  by_cases c3 : (l0.length : Int) = (l1.length : Int)
  · rw [if_pos c3] at H
    have c3b0 : ((l0.length : Int) == (l1.length : Int)) = true := beq_iff_eq.mpr c3
    have c3b1 : ((l0.length : Int) != (l1.length : Int)) = false := bne_eq_false_iff_eq.mpr c3
    have c3b2 : (l0.length == l1.length) = true := by first | simpa using c3 | (simp at c3 ⊢; omega)
    clear c3
    have H' := Aside0.mk H
    clear H
    go_enter Try.func35, Try.ntmps35
    go_wp2
    go_loopg [5] k (fun kq v5 w' => ∃ (x5_1 : Int), v5 = .int .i64 x5_1 ∧ Aside0 (laws_eqSlotS.l0 kq l0 l1 x5_1 = some r) ∧ Aside0 (kq ≤ k) ∧ Aside0 (Below w.heap.size w w'))
    case atStart => exact ⟨(0), (by first | rfl | (simp; done) | (simp [*]; done)), H', ⟨Nat.le_refl _⟩, ⟨by repeat (first | (with_reducible first | exact HB.out | apply below_alloc | apply pw_below_drewN | apply below_drew1) | exact HB.out)⟩⟩
    case round =>
      clear H'
      try clear c1
      try clear p2
      try clear c3
      try clear c3b0
      try clear c3b1
      try clear c3b2
      obtain ⟨x5_1, rfl, HA, HK1, HB⟩ := hrel
      cases gk with
      | zero => exact absurd HA.out (by simp [laws_eqSlotS.l0])
      | succ k1 =>
        have H := HA.out
        clear HA
        simp only [laws_eqSlotS.l0] at H
        by_cases c4 : x5_1 < (l0.length : Int)
        · rw [if_pos c4] at H
          have c4b0 : decide (x5_1 < (l0.length : Int)) = true := decide_eq_true c4
          clear c4
          by_cases c5 : 0 ≤ x5_1
          · rw [if_pos c5] at H
            have c5b0 : decide (0 ≤ x5_1) = true := decide_eq_true c5
            clear c5
            by_cases c6 : x5_1 < (l1.length : Int)
            · rw [if_pos c6] at H
              have c6b0 : decide (x5_1 < (l1.length : Int)) = true := decide_eq_true c6
              clear c6
              replace H := Option.bind_eq_some_iff.mp H
              obtain ⟨t197, A70, H⟩ := H
              replace H : (if t197 = true then (laws_eqSlotS.l0 k1 l0 l1 (wrap64 (x5_1 + 1))) else (some false)) = some r := H
              have A7 := Aside0.mk A70
              clear A70
              by_cases c8 : t197 = true
              · subst c8
                have H1 : (laws_eqSlotS.l0 k1 l0 l1 (wrap64 (x5_1 + 1))) = some r := by rw [if_pos rfl] at H; exact H
                clear H
                have H := H1
                clear H1
                have H' := Aside0.mk H
                clear H
                try go_wp2
                have n0_ := Aside0.mk (below_drew1 HB.out)
                clear HB
                have HB := n0_
                clear n0_
                have p195 : 0 ≤ (x5_1 : Int) := of_decide_eq_true (by first | (with_reducible assumption) | assumption)
                have q195 : x5_1 < (l0.length : Int) := of_decide_eq_true (by first | (with_reducible assumption) | assumption)
                obtain ⟨ad195, e195, hx195_0, hx195_1, hx195_2, hx195_3⟩ := at_T82 HR0.out x5_1 p195 q195
                have hw195_3 := hx195_3
                have hw195_2 := hx195_2
                have hw195_1 := hx195_1
                have hw195_0 := hx195_0
                cases e195
                replace hx195_0 := (HB.out.cell (World.block_lt_of_cell? w _ hx195_0)).trans hx195_0
                replace hx195_1 := (HB.out.cell (World.block_lt_of_cell? w _ hx195_1)).trans hx195_1
                replace hx195_2 := (HB.out.cell (World.block_lt_of_cell? w _ hx195_2)).trans hx195_2
                replace hx195_3 := (HB.out.cell (World.block_lt_of_cell? w _ hx195_3)).trans hx195_3
                replace p195 := eq_true p195
                replace q195 := eq_true q195
                have p196 : 0 ≤ (x5_1 : Int) := of_decide_eq_true (by first | (with_reducible assumption) | assumption)
                have q196 : x5_1 < (l1.length : Int) := of_decide_eq_true (by first | (with_reducible assumption) | assumption)
                obtain ⟨ad196, e196, hx196_0, hx196_1, hx196_2, hx196_3⟩ := at_T82 HR1.out x5_1 p196 q196
                have hw196_3 := hx196_3
                have hw196_2 := hx196_2
                have hw196_1 := hx196_1
                have hw196_0 := hx196_0
                cases e196
                replace hx196_0 := (HB.out.cell (World.block_lt_of_cell? w _ hx196_0)).trans hx196_0
                replace hx196_1 := (HB.out.cell (World.block_lt_of_cell? w _ hx196_1)).trans hx196_1
                replace hx196_2 := (HB.out.cell (World.block_lt_of_cell? w _ hx196_2)).trans hx196_2
                replace hx196_3 := (HB.out.cell (World.block_lt_of_cell? w _ hx196_3)).trans hx196_3
                replace p196 := eq_true p196
                replace q196 := eq_true q196
                refine start_ (n := 10) (S := fun w' => w'.cell? (ad195.add ((x5_1).toNat * 4)) = some (.int .i64 ((rd_T82 l0 x5_1).f0)) ∧ w'.cell? ⟨(ad195.add ((x5_1).toNat * 4)).block, (ad195.add ((x5_1).toNat * 4)).off + 1, none⟩ = some (.int .i64 ((rd_T82 l0 x5_1).f1)) ∧ w'.cell? ⟨(ad195.add ((x5_1).toNat * 4)).block, (ad195.add ((x5_1).toNat * 4)).off + 2, none⟩ = some (.int .i64 ((rd_T82 l0 x5_1).f2)) ∧ w'.cell? ⟨(ad195.add ((x5_1).toNat * 4)).block, (ad195.add ((x5_1).toNat * 4)).off + 3, none⟩ = some (.bool ((rd_T82 l0 x5_1).f3)) ∧ w'.cell? (ad196.add ((x5_1).toNat * 4)) = some (.int .i64 ((rd_T82 l1 x5_1).f0)) ∧ w'.cell? ⟨(ad196.add ((x5_1).toNat * 4)).block, (ad196.add ((x5_1).toNat * 4)).off + 1, none⟩ = some (.int .i64 ((rd_T82 l1 x5_1).f1)) ∧ w'.cell? ⟨(ad196.add ((x5_1).toNat * 4)).block, (ad196.add ((x5_1).toNat * 4)).off + 2, none⟩ = some (.int .i64 ((rd_T82 l1 x5_1).f2)) ∧ w'.cell? ⟨(ad196.add ((x5_1).toNat * 4)).block, (ad196.add ((x5_1).toNat * 4)).off + 3, none⟩ = some (.bool ((rd_T82 l1 x5_1).f3))) (ds := []) #[false, false, false, false, false, false, false, false, false, false] (by kernel_rfl) rfl rfl ⟨((HB.out.cell (World.block_lt_of_cell? w _ hw195_0)).trans hw195_0), ((HB.out.cell (World.block_lt_of_cell? w _ hw195_1)).trans hw195_1), ((HB.out.cell (World.block_lt_of_cell? w _ hw195_2)).trans hw195_2), ((HB.out.cell (World.block_lt_of_cell? w _ hw195_3)).trans hw195_3), ((HB.out.cell (World.block_lt_of_cell? w _ hw196_0)).trans hw196_0), ((HB.out.cell (World.block_lt_of_cell? w _ hw196_1)).trans hw196_1), ((HB.out.cell (World.block_lt_of_cell? w _ hw196_2)).trans hw196_2), ((HB.out.cell (World.block_lt_of_cell? w _ hw196_3)).trans hw196_3)⟩ (fun hHeld => ?_); refine with_tabW laws_eqSlotS.tab6 laws_eqSlotS.bits6 (fun HT_ HW_ => ?_)
                generalize wr.drew = w9 at HB hx195_0 hx195_1 hx195_2 hx195_3 hx196_0 hx196_1 hx196_2 hx196_3 hHeld ⊢
                refine pure_ (i := 0) (N := some 17) (v := ?_) (a' := ?_) #[true, false, false, false, false, false, false, false, false, false] rfl rfl (any_of HT_.out (by kernel_rfl)) (fun _ _ _ h => h) (Or.inl ⟨by rfl, ?_⟩) ?_ ?_
                rotate_left
                · intro w'
                  go_simp
                  with_reducible rfl
                rotate_left
                · simp only [Act.put, List.setIfInBounds_toArray, List.set_cons_zero, List.set_cons_succ, i64_w, i32_w]
                  rfl
                refine pure_ (i := 1) (N := some 18) (v := ?_) (a' := ?_) #[true, true, false, false, false, false, false, false, false, false] rfl rfl (any_of HT_.out (by kernel_rfl)) (fun _ _ _ h => h) (Or.inl ⟨by rfl, ?_⟩) ?_ ?_
                rotate_left
                · intro w'
                  go_simp
                  with_reducible rfl
                rotate_left
                · simp only [Act.put, List.setIfInBounds_toArray, List.set_cons_zero, List.set_cons_succ, i64_w, i32_w]
                  rfl
                refine pure_ (i := 2) (N := some 19) (v := ?_) (a' := ?_) #[true, true, true, false, false, false, false, false, false, false] rfl rfl (any_of HT_.out (by kernel_rfl)) (fun _ _ _ h => h) (Or.inl ⟨by rfl, ?_⟩) ?_ ?_
                rotate_left
                · intro w'
                  go_simp
                  with_reducible rfl
                rotate_left
                · simp only [Act.put, List.setIfInBounds_toArray, List.set_cons_zero, List.set_cons_succ, i64_w, i32_w]
                  rfl
                refine pure_ (i := 4) (N := some 21) (v := ?_) (a' := ?_) #[true, true, true, false, true, false, false, false, false, false] rfl rfl (any_of HT_.out (by kernel_rfl)) (fun _ _ _ h => h) (Or.inl ⟨by rfl, ?_⟩) ?_ ?_
                rotate_left
                · intro w'
                  go_simp
                  with_reducible rfl
                rotate_left
                · simp only [Act.put, List.setIfInBounds_toArray, List.set_cons_zero, List.set_cons_succ, i64_w, i32_w]
                  rfl
                refine pure_ (i := 5) (N := some 22) (v := ?_) (a' := ?_) #[true, true, true, false, true, true, false, false, false, false] rfl rfl (any_of HT_.out (by kernel_rfl)) (fun _ _ _ h => h) (Or.inl ⟨by rfl, ?_⟩) ?_ ?_
                rotate_left
                · intro w'
                  go_simp
                  with_reducible rfl
                rotate_left
                · simp only [Act.put, List.setIfInBounds_toArray, List.set_cons_zero, List.set_cons_succ, i64_w, i32_w]
                  rfl
                refine pure_ (i := 6) (N := some 23) (v := ?_) (a' := ?_) #[true, true, true, false, true, true, true, false, false, false] rfl rfl (any_of HT_.out (by kernel_rfl)) (fun _ _ _ h => h) (Or.inl ⟨by rfl, ?_⟩) ?_ ?_
                rotate_left
                · intro w'
                  go_simp
                  with_reducible rfl
                rotate_left
                · simp only [Act.put, List.setIfInBounds_toArray, List.set_cons_zero, List.set_cons_succ, i64_w, i32_w]
                  rfl
                refine take_ (i := 3) (N := some 20) (v := ?_) (a' := ?_) #[true, true, true, true, true, true, true, false, false, false] rfl rfl (take_ofW HT_.out HW_.out (by kernel_rfl)) (fun _ _ _ h => h) (Or.inl ⟨by rfl, ?_⟩) hHeld ?_ ?_
                rotate_left
                · rintro w' ⟨s0, s1, s2, s3, s4, s5, s6, s7⟩
                  go_simp
                  with_reducible rfl
                rotate_left
                · simp only [Act.put, List.setIfInBounds_toArray, List.set_cons_zero, List.set_cons_succ, i64_w, i32_w]
                  rfl
                refine take_ (i := 7) (N := some 24) (v := ?_) (a' := ?_) #[true, true, true, true, true, true, true, true, false, false] rfl rfl (take_ofW HT_.out HW_.out (by kernel_rfl)) (fun _ _ _ h => h) (Or.inl ⟨by rfl, ?_⟩) hHeld ?_ ?_
                rotate_left
                · rintro w' ⟨s0, s1, s2, s3, s4, s5, s6, s7⟩
                  go_simp
                  with_reducible rfl
                rotate_left
                · simp only [Act.put, List.setIfInBounds_toArray, List.set_cons_zero, List.set_cons_succ, i64_w, i32_w]
                  rfl
                refine one_ (i := 8) (N := some 25) #[true, true, true, true, true, true, true, true, true, false] rfl rfl (one_of HT_.out (by kernel_rfl)) (by decide) (fun K hK => ?_)
                refine goes_ Try.func70 (by kernel_rfl) rfl #[.agg #[.int .i64 ((rd_T82 l0 x5_1).f0), .int .i64 ((rd_T82 l0 x5_1).f1), .int .i64 ((rd_T82 l0 x5_1).f2), .bool ((rd_T82 l0 x5_1).f3)], .agg #[.int .i64 ((rd_T82 l1 x5_1).f0), .int .i64 ((rd_T82 l1 x5_1).f1), .int .i64 ((rd_T82 l1 x5_1).f2), .bool ((rd_T82 l1 x5_1).f3)]] (by rfl) rfl rfl (by (try simp only [List.map_toArray, List.map_cons, List.map_nil]); first | done | rfl | (simp only [List.length_drop, List.length_take]; rfl)) ?_
                with_reducible refine (laws_eqSlot.calls ((rd_T82 l0 x5_1).f0) ((rd_T82 l0 x5_1).f1) ((rd_T82 l0 x5_1).f2) ((rd_T82 l0 x5_1).f3) ((rd_T82 l1 x5_1).f0) ((rd_T82 l1 x5_1).f1) ((rd_T82 l1 x5_1).f2) ((rd_T82 l1 x5_1).f3) true _ A7.out).mono ?_
                rintro e w10 ⟨rfl, hb⟩
                refine ⟨_, rfl, ?_⟩
                have n0_ := Aside0.mk (below_step (by repeat (first | (with_reducible first | exact HB.out | apply below_alloc | apply pw_below_drewN | apply below_drew1) | exact HB.out)) hb)
                clear HB
                have HB := n0_
                clear n0_
                (try clear hb)
                (try clear hb2)
                (try clear hk)
                (try clear hi)
                refine hK.out _ _ ⟨((HB.out.cell (World.block_lt_of_cell? w _ hw195_0)).trans hw195_0), ((HB.out.cell (World.block_lt_of_cell? w _ hw195_1)).trans hw195_1), ((HB.out.cell (World.block_lt_of_cell? w _ hw195_2)).trans hw195_2), ((HB.out.cell (World.block_lt_of_cell? w _ hw195_3)).trans hw195_3), ((HB.out.cell (World.block_lt_of_cell? w _ hw196_0)).trans hw196_0), ((HB.out.cell (World.block_lt_of_cell? w _ hw196_1)).trans hw196_1), ((HB.out.cell (World.block_lt_of_cell? w _ hw196_2)).trans hw196_2), ((HB.out.cell (World.block_lt_of_cell? w _ hw196_3)).trans hw196_3)⟩ (fun hHeld => ?_)
                clear hK K
                refine norm_ (a' := ?_) ?_ ?_
                rotate_left
                · show Act.put _ (some 25) _ = _
                  simp only [Act.put, List.setIfInBounds_toArray, List.set_cons_zero, List.set_cons_succ, i64_w, i32_w]
                  rfl
                refine pure_ (i := 9) (N := some 26) (v := ?_) (a' := ?_) #[true, true, true, true, true, true, true, true, true, true] rfl rfl (any_of HT_.out (by kernel_rfl)) (fun _ _ _ h => h) (Or.inl ⟨by rfl, ?_⟩) ?_ ?_
                rotate_left
                · intro w'
                  go_simp
                  with_reducible rfl
                rotate_left
                · simp only [Act.put, List.setIfInBounds_toArray, List.set_cons_zero, List.set_cons_succ, i64_w, i32_w]
                  rfl
                refine done_ (done_of HT_.out (by kernel_rfl)) ?_
                try go_wp2
                go_roundg k1
                case measure => have := HK1.out; omega
                case rel => exact ⟨(wrap64 (x5_1 + 1)), (by first | rfl | (simp; done) | (simp [*]; done)), H', ⟨by have := HK1.out; omega⟩, ⟨by repeat (first | (with_reducible first | exact HB.out | apply below_alloc | apply pw_below_drewN | apply below_drew1) | exact HB.out)⟩⟩
              · replace c8 := Bool.eq_false_iff.mpr c8
                subst c8
                have H1 : (some false) = some r := by rw [if_neg (show ¬ (false = true) by decide)] at H; exact H
                clear H
                have H := H1
                clear H1
                obtain rfl := Option.some.inj H
                try go_wp2
                have n0_ := Aside0.mk (below_drew1 HB.out)
                clear HB
                have HB := n0_
                clear n0_
                have p195 : 0 ≤ (x5_1 : Int) := of_decide_eq_true (by first | (with_reducible assumption) | assumption)
                have q195 : x5_1 < (l0.length : Int) := of_decide_eq_true (by first | (with_reducible assumption) | assumption)
                obtain ⟨ad195, e195, hx195_0, hx195_1, hx195_2, hx195_3⟩ := at_T82 HR0.out x5_1 p195 q195
                have hw195_3 := hx195_3
                have hw195_2 := hx195_2
                have hw195_1 := hx195_1
                have hw195_0 := hx195_0
                cases e195
                replace hx195_0 := (HB.out.cell (World.block_lt_of_cell? w _ hx195_0)).trans hx195_0
                replace hx195_1 := (HB.out.cell (World.block_lt_of_cell? w _ hx195_1)).trans hx195_1
                replace hx195_2 := (HB.out.cell (World.block_lt_of_cell? w _ hx195_2)).trans hx195_2
                replace hx195_3 := (HB.out.cell (World.block_lt_of_cell? w _ hx195_3)).trans hx195_3
                replace p195 := eq_true p195
                replace q195 := eq_true q195
                have p196 : 0 ≤ (x5_1 : Int) := of_decide_eq_true (by first | (with_reducible assumption) | assumption)
                have q196 : x5_1 < (l1.length : Int) := of_decide_eq_true (by first | (with_reducible assumption) | assumption)
                obtain ⟨ad196, e196, hx196_0, hx196_1, hx196_2, hx196_3⟩ := at_T82 HR1.out x5_1 p196 q196
                have hw196_3 := hx196_3
                have hw196_2 := hx196_2
                have hw196_1 := hx196_1
                have hw196_0 := hx196_0
                cases e196
                replace hx196_0 := (HB.out.cell (World.block_lt_of_cell? w _ hx196_0)).trans hx196_0
                replace hx196_1 := (HB.out.cell (World.block_lt_of_cell? w _ hx196_1)).trans hx196_1
                replace hx196_2 := (HB.out.cell (World.block_lt_of_cell? w _ hx196_2)).trans hx196_2
                replace hx196_3 := (HB.out.cell (World.block_lt_of_cell? w _ hx196_3)).trans hx196_3
                replace p196 := eq_true p196
                replace q196 := eq_true q196
                refine start_ (n := 10) (S := fun w' => w'.cell? (ad195.add ((x5_1).toNat * 4)) = some (.int .i64 ((rd_T82 l0 x5_1).f0)) ∧ w'.cell? ⟨(ad195.add ((x5_1).toNat * 4)).block, (ad195.add ((x5_1).toNat * 4)).off + 1, none⟩ = some (.int .i64 ((rd_T82 l0 x5_1).f1)) ∧ w'.cell? ⟨(ad195.add ((x5_1).toNat * 4)).block, (ad195.add ((x5_1).toNat * 4)).off + 2, none⟩ = some (.int .i64 ((rd_T82 l0 x5_1).f2)) ∧ w'.cell? ⟨(ad195.add ((x5_1).toNat * 4)).block, (ad195.add ((x5_1).toNat * 4)).off + 3, none⟩ = some (.bool ((rd_T82 l0 x5_1).f3)) ∧ w'.cell? (ad196.add ((x5_1).toNat * 4)) = some (.int .i64 ((rd_T82 l1 x5_1).f0)) ∧ w'.cell? ⟨(ad196.add ((x5_1).toNat * 4)).block, (ad196.add ((x5_1).toNat * 4)).off + 1, none⟩ = some (.int .i64 ((rd_T82 l1 x5_1).f1)) ∧ w'.cell? ⟨(ad196.add ((x5_1).toNat * 4)).block, (ad196.add ((x5_1).toNat * 4)).off + 2, none⟩ = some (.int .i64 ((rd_T82 l1 x5_1).f2)) ∧ w'.cell? ⟨(ad196.add ((x5_1).toNat * 4)).block, (ad196.add ((x5_1).toNat * 4)).off + 3, none⟩ = some (.bool ((rd_T82 l1 x5_1).f3))) (ds := []) #[false, false, false, false, false, false, false, false, false, false] (by kernel_rfl) rfl rfl ⟨((HB.out.cell (World.block_lt_of_cell? w _ hw195_0)).trans hw195_0), ((HB.out.cell (World.block_lt_of_cell? w _ hw195_1)).trans hw195_1), ((HB.out.cell (World.block_lt_of_cell? w _ hw195_2)).trans hw195_2), ((HB.out.cell (World.block_lt_of_cell? w _ hw195_3)).trans hw195_3), ((HB.out.cell (World.block_lt_of_cell? w _ hw196_0)).trans hw196_0), ((HB.out.cell (World.block_lt_of_cell? w _ hw196_1)).trans hw196_1), ((HB.out.cell (World.block_lt_of_cell? w _ hw196_2)).trans hw196_2), ((HB.out.cell (World.block_lt_of_cell? w _ hw196_3)).trans hw196_3)⟩ (fun hHeld => ?_); refine with_tabW laws_eqSlotS.tab6 laws_eqSlotS.bits6 (fun HT_ HW_ => ?_)
                generalize wr.drew = w11 at HB hx195_0 hx195_1 hx195_2 hx195_3 hx196_0 hx196_1 hx196_2 hx196_3 hHeld ⊢
                refine pure_ (i := 0) (N := some 17) (v := ?_) (a' := ?_) #[true, false, false, false, false, false, false, false, false, false] rfl rfl (any_of HT_.out (by kernel_rfl)) (fun _ _ _ h => h) (Or.inl ⟨by rfl, ?_⟩) ?_ ?_
                rotate_left
                · intro w'
                  go_simp
                  with_reducible rfl
                rotate_left
                · simp only [Act.put, List.setIfInBounds_toArray, List.set_cons_zero, List.set_cons_succ, i64_w, i32_w]
                  rfl
                refine pure_ (i := 1) (N := some 18) (v := ?_) (a' := ?_) #[true, true, false, false, false, false, false, false, false, false] rfl rfl (any_of HT_.out (by kernel_rfl)) (fun _ _ _ h => h) (Or.inl ⟨by rfl, ?_⟩) ?_ ?_
                rotate_left
                · intro w'
                  go_simp
                  with_reducible rfl
                rotate_left
                · simp only [Act.put, List.setIfInBounds_toArray, List.set_cons_zero, List.set_cons_succ, i64_w, i32_w]
                  rfl
                refine pure_ (i := 2) (N := some 19) (v := ?_) (a' := ?_) #[true, true, true, false, false, false, false, false, false, false] rfl rfl (any_of HT_.out (by kernel_rfl)) (fun _ _ _ h => h) (Or.inl ⟨by rfl, ?_⟩) ?_ ?_
                rotate_left
                · intro w'
                  go_simp
                  with_reducible rfl
                rotate_left
                · simp only [Act.put, List.setIfInBounds_toArray, List.set_cons_zero, List.set_cons_succ, i64_w, i32_w]
                  rfl
                refine pure_ (i := 4) (N := some 21) (v := ?_) (a' := ?_) #[true, true, true, false, true, false, false, false, false, false] rfl rfl (any_of HT_.out (by kernel_rfl)) (fun _ _ _ h => h) (Or.inl ⟨by rfl, ?_⟩) ?_ ?_
                rotate_left
                · intro w'
                  go_simp
                  with_reducible rfl
                rotate_left
                · simp only [Act.put, List.setIfInBounds_toArray, List.set_cons_zero, List.set_cons_succ, i64_w, i32_w]
                  rfl
                refine pure_ (i := 5) (N := some 22) (v := ?_) (a' := ?_) #[true, true, true, false, true, true, false, false, false, false] rfl rfl (any_of HT_.out (by kernel_rfl)) (fun _ _ _ h => h) (Or.inl ⟨by rfl, ?_⟩) ?_ ?_
                rotate_left
                · intro w'
                  go_simp
                  with_reducible rfl
                rotate_left
                · simp only [Act.put, List.setIfInBounds_toArray, List.set_cons_zero, List.set_cons_succ, i64_w, i32_w]
                  rfl
                refine pure_ (i := 6) (N := some 23) (v := ?_) (a' := ?_) #[true, true, true, false, true, true, true, false, false, false] rfl rfl (any_of HT_.out (by kernel_rfl)) (fun _ _ _ h => h) (Or.inl ⟨by rfl, ?_⟩) ?_ ?_
                rotate_left
                · intro w'
                  go_simp
                  with_reducible rfl
                rotate_left
                · simp only [Act.put, List.setIfInBounds_toArray, List.set_cons_zero, List.set_cons_succ, i64_w, i32_w]
                  rfl
                refine take_ (i := 3) (N := some 20) (v := ?_) (a' := ?_) #[true, true, true, true, true, true, true, false, false, false] rfl rfl (take_ofW HT_.out HW_.out (by kernel_rfl)) (fun _ _ _ h => h) (Or.inl ⟨by rfl, ?_⟩) hHeld ?_ ?_
                rotate_left
                · rintro w' ⟨s0, s1, s2, s3, s4, s5, s6, s7⟩
                  go_simp
                  with_reducible rfl
                rotate_left
                · simp only [Act.put, List.setIfInBounds_toArray, List.set_cons_zero, List.set_cons_succ, i64_w, i32_w]
                  rfl
                refine take_ (i := 7) (N := some 24) (v := ?_) (a' := ?_) #[true, true, true, true, true, true, true, true, false, false] rfl rfl (take_ofW HT_.out HW_.out (by kernel_rfl)) (fun _ _ _ h => h) (Or.inl ⟨by rfl, ?_⟩) hHeld ?_ ?_
                rotate_left
                · rintro w' ⟨s0, s1, s2, s3, s4, s5, s6, s7⟩
                  go_simp
                  with_reducible rfl
                rotate_left
                · simp only [Act.put, List.setIfInBounds_toArray, List.set_cons_zero, List.set_cons_succ, i64_w, i32_w]
                  rfl
                refine one_ (i := 8) (N := some 25) #[true, true, true, true, true, true, true, true, true, false] rfl rfl (one_of HT_.out (by kernel_rfl)) (by decide) (fun K hK => ?_)
                refine goes_ Try.func70 (by kernel_rfl) rfl #[.agg #[.int .i64 ((rd_T82 l0 x5_1).f0), .int .i64 ((rd_T82 l0 x5_1).f1), .int .i64 ((rd_T82 l0 x5_1).f2), .bool ((rd_T82 l0 x5_1).f3)], .agg #[.int .i64 ((rd_T82 l1 x5_1).f0), .int .i64 ((rd_T82 l1 x5_1).f1), .int .i64 ((rd_T82 l1 x5_1).f2), .bool ((rd_T82 l1 x5_1).f3)]] (by rfl) rfl rfl (by (try simp only [List.map_toArray, List.map_cons, List.map_nil]); first | done | rfl | (simp only [List.length_drop, List.length_take]; rfl)) ?_
                with_reducible refine (laws_eqSlot.calls ((rd_T82 l0 x5_1).f0) ((rd_T82 l0 x5_1).f1) ((rd_T82 l0 x5_1).f2) ((rd_T82 l0 x5_1).f3) ((rd_T82 l1 x5_1).f0) ((rd_T82 l1 x5_1).f1) ((rd_T82 l1 x5_1).f2) ((rd_T82 l1 x5_1).f3) false _ A7.out).mono ?_
                rintro e w12 ⟨rfl, hb⟩
                refine ⟨_, rfl, ?_⟩
                have n0_ := Aside0.mk (below_step (by repeat (first | (with_reducible first | exact HB.out | apply below_alloc | apply pw_below_drewN | apply below_drew1) | exact HB.out)) hb)
                clear HB
                have HB := n0_
                clear n0_
                (try clear hb)
                (try clear hb2)
                (try clear hk)
                (try clear hi)
                refine hK.out _ _ ⟨((HB.out.cell (World.block_lt_of_cell? w _ hw195_0)).trans hw195_0), ((HB.out.cell (World.block_lt_of_cell? w _ hw195_1)).trans hw195_1), ((HB.out.cell (World.block_lt_of_cell? w _ hw195_2)).trans hw195_2), ((HB.out.cell (World.block_lt_of_cell? w _ hw195_3)).trans hw195_3), ((HB.out.cell (World.block_lt_of_cell? w _ hw196_0)).trans hw196_0), ((HB.out.cell (World.block_lt_of_cell? w _ hw196_1)).trans hw196_1), ((HB.out.cell (World.block_lt_of_cell? w _ hw196_2)).trans hw196_2), ((HB.out.cell (World.block_lt_of_cell? w _ hw196_3)).trans hw196_3)⟩ (fun hHeld => ?_)
                clear hK K
                refine norm_ (a' := ?_) ?_ ?_
                rotate_left
                · show Act.put _ (some 25) _ = _
                  simp only [Act.put, List.setIfInBounds_toArray, List.set_cons_zero, List.set_cons_succ, i64_w, i32_w]
                  rfl
                refine pure_ (i := 9) (N := some 26) (v := ?_) (a' := ?_) #[true, true, true, true, true, true, true, true, true, true] rfl rfl (any_of HT_.out (by kernel_rfl)) (fun _ _ _ h => h) (Or.inl ⟨by rfl, ?_⟩) ?_ ?_
                rotate_left
                · intro w'
                  go_simp
                  with_reducible rfl
                rotate_left
                · simp only [Act.put, List.setIfInBounds_toArray, List.set_cons_zero, List.set_cons_succ, i64_w, i32_w]
                  rfl
                refine done_ (done_of HT_.out (by kernel_rfl)) ?_
                try go_wp2
                go_ret
                exact ⟨by first | rfl | (simp [errW_none, errW_some] <;> rfl) | (simp [*, errW_none, errW_some] <;> rfl), by repeat (first | (with_reducible first | exact HB.out | apply below_alloc | apply pw_below_drewN | apply below_drew1) | exact HB.out)⟩
            · rw [if_neg c6] at H
              exact absurd H (by simp)
          · rw [if_neg c5] at H
            exact absurd H (by simp)
        · rw [if_neg c4] at H
          have c4b0 : decide (x5_1 < (l0.length : Int)) = false := decide_eq_false c4
          clear c4
          obtain rfl := Option.some.inj H
          go_wp2
          go_ret
          exact ⟨by first | rfl | (simp [errW_none, errW_some] <;> rfl) | (simp [*, errW_none, errW_some] <;> rfl), by repeat (first | (with_reducible first | exact HB.out | apply below_alloc | apply pw_below_drewN | apply below_drew1) | exact HB.out)⟩
  · rw [if_neg c3] at H
    have c3b0 : ((l0.length : Int) == (l1.length : Int)) = false := beq_eq_false_iff_ne.mpr c3
    have c3b1 : ((l0.length : Int) != (l1.length : Int)) = true := bne_iff_ne.mpr c3
    have c3b2 : (l0.length == l1.length) = false := by first | simpa using c3 | (simp at c3 ⊢; omega)
    obtain rfl := Option.some.inj H
    go_enter Try.func35, Try.ntmps35
    go_wp2
    go_ret
    exact ⟨by first | rfl | (simp [errW_none, errW_some] <;> rfl) | (simp [*, errW_none, errW_some] <;> rfl), by repeat (first | (with_reducible first | exact HB.out | apply below_alloc | apply pw_below_drewN | apply below_drew1) | exact HB.out)⟩

/-! ### laws_markSlotS: function 36 -/
def laws_markSlotS.l0 : Nat → List (S82) → Int → Int → Option (Int × (List (S82)))
  | 0, _, _, _ => none
  | k + 1, x0, x1, x5 => if x5 < (x0.length : Int) then (if 0 ≤ x5 then ((some (x0.set (x5 : Int).toNat (⟨x1, (rd_T82 x0 x5).f1, (rd_T82 x0 x5).f2, (rd_T82 x0 x5).f3⟩ : S82) : List (S82))).bind fun y198 => ((some (y198.set (x5 : Int).toNat (⟨(rd_T82 y198 x5).f0, wrap64 (x1 + 1), (rd_T82 y198 x5).f2, (rd_T82 y198 x5).f3⟩ : S82) : List (S82))).bind fun y199 => ((some (y199.set (x5 : Int).toNat (⟨(rd_T82 y199 x5).f0, (rd_T82 y199 x5).f1, wrap64 ((wrap64 (x1 + 1)) + 1), (rd_T82 y199 x5).f3⟩ : S82) : List (S82))).bind fun y200 => (laws_markSlotS.l0 k (y200.set (x5 : Int).toNat (⟨(rd_T82 y200 x5).f0, (rd_T82 y200 x5).f1, (rd_T82 y200 x5).f2, ((Int.tmod (wrap64 ((wrap64 ((wrap64 (x1 + 1)) + 1)) + 1)) 3) == 0)⟩ : S82)) (wrap64 ((wrap64 ((wrap64 ((wrap64 (x1 + 1)) + 1)) + 1)) + 1)) (wrap64 (x5 + 1)))))) else (none)) else (some (x1, x0))
def laws_markSlotS.f (k : Nat) (l0 : List (S82)) (a1 : Int) : Option (Int × (List (S82))) := laws_markSlotS.l0 k l0 a1 0
theorem laws_markSlotS.mono_l : ∀ k, (∀ y0 y1 y2, LeO (laws_markSlotS.l0 k y0 y1 y2) (laws_markSlotS.l0 (k + 1) y0 y1 y2))
  | 0 => fun _ _ _ r h => by simp [laws_markSlotS.l0] at h
  | k + 1 => by
    have ih0 := laws_markSlotS.mono_l k
    · intro y0 y1 y2
      unfold laws_markSlotS.l0
      repeat' first
      | (with_reducible exact ih0 _ _ _)
      | (with_reducible exact LeO.refl _)
      | (with_reducible exact LeO.none _)
      | (with_reducible refine LeO.ite ?_ ?_)
      | (with_reducible refine LeO.bind ?_ (fun _ => ?_))
      | exact ih0 _ _ _
      | exact LeO.none _
      | refine LeO.ite ?_ ?_
      | refine LeO.bind ?_ (fun _ => ?_)
theorem laws_markSlotS.mono : ∀ a0 a1 k, LeO (laws_markSlotS.f k a0 a1) (laws_markSlotS.f (k + 1) a0 a1) := by
  intro a0 a1 k
  have ih0 := laws_markSlotS.mono_l k
  unfold laws_markSlotS.f
  repeat' first
      | (with_reducible exact ih0 _ _ _)
      | (with_reducible exact LeO.refl _)
      | (with_reducible exact LeO.none _)
      | (with_reducible refine LeO.ite ?_ ?_)
      | (with_reducible refine LeO.bind ?_ (fun _ => ?_))
      | exact ih0 _ _ _
      | exact LeO.none _
      | refine LeO.ite ?_ ?_
      | refine LeO.bind ?_ (fun _ => ?_)
set_option maxHeartbeats 8000000 in
set_option maxRecDepth 100000 in
theorem laws_markSlotS.calls (k : Nat) (P0_ : Nat → Prop) (u9000_ : Value) (l0 : List (S82)) (a1 : Int) (r1 : Int) (r2 : List (S82)) (w0 w : World) (hB : Below w0.heap.size w0 w) (ho0 : Kd.R k82 82 w w0.heap.size P0_ u9000_ l0) (h : laws_markSlotS.f k l0 a1 = some (r1, r2)) :
    Calls Try.prog 36 #[u9000_, .int .i64 a1] w fun e w' => e = .returned (.int .i64 r1) ∧ Kd.R k82 82 w' w0.heap.size (fun k_ => (P0_ k_ ∨ w.heap.size ≤ k_)) u9000_ r2 ∧ Below w0.heap.size w0 w' ∧ Kept w w' (fun k_ => P0_ k_) := by
  have HO0 := Aside0.mk (show Kd.R k82 82 w w0.heap.size (fun k_ => (P0_ k_ ∨ w.heap.size ≤ k_)) u9000_ l0 from Kd.R_mono ho0 (fun k_ hk => (.inl hk)))
  have HK := Aside0.mk (Kept.refl w (fun k_ => P0_ k_))
  have HW0 := Aside0.mk hB.size
  have HB := Aside0.mk hB
  clear hB
  have H : (laws_markSlotS.l0 k l0 a1 0) = some (r1, r2) := h
  clear h
  have H' := Aside0.mk H
  clear H
  go_enter Try.func36, Try.ntmps36
  go_wp2
  go_loopg [1, 5] k (fun kq v1 v5 w' => ∃ (x0_1 : List (S82)) (x1_1 : Int) (x5_1 : Int), v1 = .int .i64 x1_1 ∧ v5 = .int .i64 x5_1 ∧ Aside0 (laws_markSlotS.l0 kq x0_1 x1_1 x5_1 = some (r1, r2)) ∧ Aside0 (kq ≤ k) ∧ Aside0 (Kd.R k82 82 w' w0.heap.size (fun k_ => (P0_ k_ ∨ w.heap.size ≤ k_)) u9000_ x0_1) ∧ Aside0 (Kept w w' (fun k_ => P0_ k_)) ∧ Aside0 (Below w0.heap.size w0 w'))
  case atStart => exact ⟨(l0), (a1), (0), (by first | rfl | (simp; done) | (simp [*]; done)), (by first | rfl | (simp; done) | (simp [*]; done)), H', ⟨Nat.le_refl _⟩, ⟨by (with_reducible repeat (first | apply Kd.R_alloc | apply Kd.R_drewN | apply Kd.R_drew)); exact HO0.out⟩, ⟨by repeat (first | (with_reducible first | exact HK.out | apply Kept.alloc | apply Kept.drewN | apply Kept.drew) | exact HK.out)⟩, ⟨by repeat (first | (with_reducible first | exact HB.out | apply below_alloc | apply pw_below_drewN | apply below_drew1) | exact HB.out)⟩⟩
  case round =>
    clear H'
    try clear p2
    obtain ⟨x0_1, x1_1, x5_1, rfl, rfl, HA, HK1, HO_0, HK, HB⟩ := hrel
    cases gk with
    | zero => exact absurd HA.out (by simp [laws_markSlotS.l0])
    | succ k1 =>
      have H := HA.out
      clear HA
      simp only [laws_markSlotS.l0] at H
      by_cases c3 : x5_1 < (x0_1.length : Int)
      · rw [if_pos c3] at H
        have c3b0 : decide (x5_1 < (x0_1.length : Int)) = true := decide_eq_true c3
        clear c3
        by_cases c4 : 0 ≤ x5_1
        · rw [if_pos c4] at H
          have c4b0 : decide (0 ≤ x5_1) = true := decide_eq_true c4
          clear c4
          obtain ⟨y198, hy198⟩ : ∃ y_ : List (S82), y_ = (x0_1.set (x5_1 : Int).toNat (⟨x1_1, (rd_T82 x0_1 x5_1).f1, (rd_T82 x0_1 x5_1).f2, (rd_T82 x0_1 x5_1).f3⟩ : S82)) := ⟨_, rfl⟩
          replace H : ((some (y198.set (x5_1 : Int).toNat (⟨(rd_T82 y198 x5_1).f0, wrap64 (x1_1 + 1), (rd_T82 y198 x5_1).f2, (rd_T82 y198 x5_1).f3⟩ : S82) : List (S82))).bind fun y199 => ((some (y199.set (x5_1 : Int).toNat (⟨(rd_T82 y199 x5_1).f0, (rd_T82 y199 x5_1).f1, wrap64 ((wrap64 (x1_1 + 1)) + 1), (rd_T82 y199 x5_1).f3⟩ : S82) : List (S82))).bind fun y200 => (laws_markSlotS.l0 k1 (y200.set (x5_1 : Int).toNat (⟨(rd_T82 y200 x5_1).f0, (rd_T82 y200 x5_1).f1, (rd_T82 y200 x5_1).f2, ((Int.tmod (wrap64 ((wrap64 ((wrap64 (x1_1 + 1)) + 1)) + 1)) 3) == 0)⟩ : S82)) (wrap64 ((wrap64 ((wrap64 ((wrap64 (x1_1 + 1)) + 1)) + 1)) + 1)) (wrap64 (x5_1 + 1))))) = some (r1, r2) := by first | (rw [hy198]; with_reducible exact H) | (have H2_ := (Option.bind_some _ _).symm.trans H; rw [hy198]; with_reducible exact H2_) | (have H2_ := (Option.bind_some _ _).symm.trans H; with_reducible exact H2_) | with_reducible exact H | (rw [hy198]; exact H) | exact H
          have Ny198 := Aside0.mk hy198
          clear hy198
          obtain ⟨y199, hy199⟩ : ∃ y_ : List (S82), y_ = (y198.set (x5_1 : Int).toNat (⟨(rd_T82 y198 x5_1).f0, wrap64 (x1_1 + 1), (rd_T82 y198 x5_1).f2, (rd_T82 y198 x5_1).f3⟩ : S82)) := ⟨_, rfl⟩
          replace H : ((some (y199.set (x5_1 : Int).toNat (⟨(rd_T82 y199 x5_1).f0, (rd_T82 y199 x5_1).f1, wrap64 ((wrap64 (x1_1 + 1)) + 1), (rd_T82 y199 x5_1).f3⟩ : S82) : List (S82))).bind fun y200 => (laws_markSlotS.l0 k1 (y200.set (x5_1 : Int).toNat (⟨(rd_T82 y200 x5_1).f0, (rd_T82 y200 x5_1).f1, (rd_T82 y200 x5_1).f2, ((Int.tmod (wrap64 ((wrap64 ((wrap64 (x1_1 + 1)) + 1)) + 1)) 3) == 0)⟩ : S82)) (wrap64 ((wrap64 ((wrap64 ((wrap64 (x1_1 + 1)) + 1)) + 1)) + 1)) (wrap64 (x5_1 + 1)))) = some (r1, r2) := by first | (rw [hy199]; with_reducible exact H) | (have H2_ := (Option.bind_some _ _).symm.trans H; rw [hy199]; with_reducible exact H2_) | (have H2_ := (Option.bind_some _ _).symm.trans H; with_reducible exact H2_) | with_reducible exact H | (rw [hy199]; exact H) | exact H
          have Ny199 := Aside0.mk hy199
          clear hy199
          obtain ⟨y200, hy200⟩ : ∃ y_ : List (S82), y_ = (y199.set (x5_1 : Int).toNat (⟨(rd_T82 y199 x5_1).f0, (rd_T82 y199 x5_1).f1, wrap64 ((wrap64 (x1_1 + 1)) + 1), (rd_T82 y199 x5_1).f3⟩ : S82)) := ⟨_, rfl⟩
          replace H : (laws_markSlotS.l0 k1 (y200.set (x5_1 : Int).toNat (⟨(rd_T82 y200 x5_1).f0, (rd_T82 y200 x5_1).f1, (rd_T82 y200 x5_1).f2, ((Int.tmod (wrap64 ((wrap64 ((wrap64 (x1_1 + 1)) + 1)) + 1)) 3) == 0)⟩ : S82)) (wrap64 ((wrap64 ((wrap64 ((wrap64 (x1_1 + 1)) + 1)) + 1)) + 1)) (wrap64 (x5_1 + 1))) = some (r1, r2) := by first | (rw [hy200]; with_reducible exact H) | (have H2_ := (Option.bind_some _ _).symm.trans H; rw [hy200]; with_reducible exact H2_) | (have H2_ := (Option.bind_some _ _).symm.trans H; with_reducible exact H2_) | with_reducible exact H | (rw [hy200]; exact H) | exact H
          have Ny200 := Aside0.mk hy200
          clear hy200
          obtain ⟨y201, hy201⟩ : ∃ y_ : List (S82), y_ = (y200.set (x5_1 : Int).toNat (⟨(rd_T82 y200 x5_1).f0, (rd_T82 y200 x5_1).f1, (rd_T82 y200 x5_1).f2, ((Int.tmod (wrap64 ((wrap64 ((wrap64 (x1_1 + 1)) + 1)) + 1)) 3) == 0)⟩ : S82)) := ⟨_, rfl⟩
          replace H : (laws_markSlotS.l0 k1 y201 (wrap64 ((wrap64 ((wrap64 ((wrap64 (x1_1 + 1)) + 1)) + 1)) + 1)) (wrap64 (x5_1 + 1))) = some (r1, r2) := by first | (rw [hy201]; with_reducible exact H) | (have H2_ := (Option.bind_some _ _).symm.trans H; rw [hy201]; with_reducible exact H2_) | (have H2_ := (Option.bind_some _ _).symm.trans H; with_reducible exact H2_) | with_reducible exact H | (rw [hy201]; exact H) | exact H
          have Ny201 := Aside0.mk hy201
          clear hy201
          have H' := Aside0.mk H
          clear H
          obtain ⟨Ao9, co9, eo9⟩ := Kd.R_slice HO_0.out
          subst eo9
          have p5 : 0 ≤ (x5_1 : Int) := of_decide_eq_true (by first | (with_reducible assumption) | assumption)
          have q5 : (x5_1 : Int) < ((x0_1.length : Int) : Int) := of_decide_eq_true (by first | (with_reducible assumption) | assumption)
          obtain ⟨go5, co5, eo5, gb5, gl5, cl5, HG5⟩ := Kd.R_form HO_0.out (by omega)
          (first | cases eo5 | (injection eo5 with ea_ en_ ec_; (first | subst ea_ | (injection ea_ with ea_; subst ea_)); subst ec_; clear en_))
          have GB5 := Aside0.mk gb5
          have GG5 := Aside0.mk HG5
          clear gb5 gl5 HG5
          have HMgo5 := Aside0.mk (show (P0_ go5 ∨ w.heap.size ≤ go5) from (HO_0.out.1 _ rfl))
          obtain ⟨ce5, hcl5, hM5, hcc5, hfr5⟩ := Kd.R_elem HO_0.out z82 (x5_1 : Int) p5 q5
          obtain rfl := k82_openM hM5
          have hx5_0 : wr.cell? ⟨go5, (x5_1 : Int).toNat * 4, none⟩ = some (.int .i64 ((rd_T82 x0_1 x5_1).f0)) := hcc5 0 _ rfl
          have hx5_1 : wr.cell? ⟨go5, (x5_1 : Int).toNat * 4 + 1, none⟩ = some (.int .i64 ((rd_T82 x0_1 x5_1).f1)) := hcc5 1 _ rfl
          have hx5_2 : wr.cell? ⟨go5, (x5_1 : Int).toNat * 4 + 2, none⟩ = some (.int .i64 ((rd_T82 x0_1 x5_1).f2)) := hcc5 2 _ rfl
          have hx5_3 : wr.cell? ⟨go5, (x5_1 : Int).toNat * 4 + 3, none⟩ = some (.bool ((rd_T82 x0_1 x5_1).f3)) := hcc5 3 _ rfl
          have hf5_0 : wr.frozen? ⟨go5, (x5_1 : Int).toNat * 4, none⟩ = false := hfr5 0
          have hf5_1 : wr.frozen? ⟨go5, (x5_1 : Int).toNat * 4 + 1, none⟩ = false := hfr5 1
          have hf5_2 : wr.frozen? ⟨go5, (x5_1 : Int).toNat * 4 + 2, none⟩ = false := hfr5 2
          have hf5_3 : wr.frozen? ⟨go5, (x5_1 : Int).toNat * 4 + 3, none⟩ = false := hfr5 3
          clear hcl5 hcc5 hfr5 hM5
          replace p5 := eq_true p5
          replace q5 := eq_true q5
          have HX10 := Aside0.mk (show Kd.R k82 82 wr w0.heap.size (fun k_ => (P0_ k_ ∨ w.heap.size ≤ k_)) (.slice (some ⟨go5, 0, none⟩) x0_1.length co9) x0_1 from (by (with_reducible repeat (first | apply Kd.R_alloc | apply Kd.R_drewN | apply Kd.R_drew)); exact HO_0.out))
          obtain ⟨ce10, hcl10, hM10, hcc10, hfr10⟩ := Kd.R_elem HX10.out z82 (x5_1 : Int) (of_decide_eq_true (by first | (with_reducible assumption) | assumption)) (by have h_ : (x5_1 : Int) < ((x0_1.length : Int) : Int) := of_decide_eq_true (by first | (with_reducible assumption) | assumption); first | exact h_ | (have e_ := (Kd.R_reads' HO_0.out).1; omega) | simpa using h_)
          obtain rfl := k82_openM hM10
          have HP10 := Kd.R_seg HX10.out (x5_1 : Int) (of_decide_eq_true (by first | (with_reducible assumption) | assumption)) (by have h_ : (x5_1 : Int) < ((x0_1.length : Int) : Int) := of_decide_eq_true (by first | (with_reducible assumption) | assumption); first | exact h_ | (have e_ := (Kd.R_reads' HO_0.out).1; omega) | simpa using h_) (seg := [.int .i64 x1_1]) (j := 0) hcl10 hcc10 (show 1 ≤ 4 from by decide) (x' := (⟨x1_1, (rd_T82 x0_1 x5_1).f1, (rd_T82 x0_1 x5_1).f2, (rd_T82 x0_1 x5_1).f3⟩ : S82)) (k82_mkM _ _ _ (⟨x1_1, (rd_T82 x0_1 x5_1).f1, (rd_T82 x0_1 x5_1).f2, (rd_T82 x0_1 x5_1).f3⟩ : S82) ) (fun _ hk => hk)
          have hx10_0 := hcc10 0 _ rfl
          (try simp only [show (k82).sz = 4 from rfl, Nat.mul_one, Nat.add_zero] at hx10_0)
          have hf10_0 := hfr10 0
          (try simp only [show (k82).sz = 4 from rfl, Nat.mul_one, Nat.add_zero] at hf10_0)
          clear hcl10 hcc10 hfr10 hM10
          go_wp2_with (first | ((with_reducible refine gate_store (t := 3) (p := 16) rfl ?_); refine store_event (t := 3) (p := 16) (v := ?vo_w11) (w1 := (wr.setCell ⟨go5, (x5_1 : Int).toNat * 4, none⟩ (.int .i64 x1_1))) ?hg ?ho ?hn ?hr ?_; (case ho => rfl); (case hg => rfl); (case hn => rfl); (case hr => first | (go_simp; done) | (go_simp; rfl)); intro w11 hw; have hg : wr.grownBy w11 (some go5) := (by rw [hw]; exact HP10.2); have hp_ : Kd.R k82 82 w11 w0.heap.size (fun k_ => (P0_ k_ ∨ w.heap.size ≤ k_)) (.slice (some ⟨go5, 0, none⟩) x0_1.length co9) y198 := (by rw [hw, Ny198.out]; exact HP10.1); clear HP10; have n0_ := Aside0.mk (hp_); have n1_ := Aside0.mk ((by rw [hw]; exact below_set (HB.out) GB5.out : Below w0.heap.size w0 w11)); have n2_ := Aside0.mk (Kept.of_grown (S := (fun k_ => P0_ k_)) hg (by repeat (first | (with_reducible first | exact HK.out | apply Kept.alloc | apply Kept.drewN | apply Kept.drew) | exact HK.out)) (fun k_ e_ => (HO_0.out.1 k_ e_))); clear HO_0; clear HB; clear HK; have HO_0 := n0_; have HB := n1_; have HK := n2_; clear n0_ n1_ n2_; clear hg hw hp_; have p6 : 0 ≤ (x5_1 : Int) := of_decide_eq_true (by first | (with_reducible assumption) | assumption); have q6 : (x5_1 : Int) < ((x0_1.length : Int) : Int) := of_decide_eq_true (by first | (with_reducible assumption) | assumption); obtain ⟨ce6, hcl6, hM6, hcc6, hfr6⟩ := Kd.R_elem HO_0.out z82 (x5_1 : Int) p6 q6; obtain rfl := k82_openM hM6; have hx6_0 : w11.cell? ⟨go5, (x5_1 : Int).toNat * 4, none⟩ = some (.int .i64 ((rd_T82 y198 x5_1).f0)) := hcc6 0 _ rfl; have hx6_1 : w11.cell? ⟨go5, (x5_1 : Int).toNat * 4 + 1, none⟩ = some (.int .i64 ((rd_T82 y198 x5_1).f1)) := hcc6 1 _ rfl; have hx6_2 : w11.cell? ⟨go5, (x5_1 : Int).toNat * 4 + 2, none⟩ = some (.int .i64 ((rd_T82 y198 x5_1).f2)) := hcc6 2 _ rfl; have hx6_3 : w11.cell? ⟨go5, (x5_1 : Int).toNat * 4 + 3, none⟩ = some (.bool ((rd_T82 y198 x5_1).f3)) := hcc6 3 _ rfl; have hf6_0 : w11.frozen? ⟨go5, (x5_1 : Int).toNat * 4, none⟩ = false := hfr6 0; have hf6_1 : w11.frozen? ⟨go5, (x5_1 : Int).toNat * 4 + 1, none⟩ = false := hfr6 1; have hf6_2 : w11.frozen? ⟨go5, (x5_1 : Int).toNat * 4 + 2, none⟩ = false := hfr6 2; have hf6_3 : w11.frozen? ⟨go5, (x5_1 : Int).toNat * 4 + 3, none⟩ = false := hfr6 3; clear hcl6 hcc6 hfr6 hM6; replace p6 := eq_true p6; replace q6 := eq_true q6; have HX12 := Aside0.mk (show Kd.R k82 82 w11 w0.heap.size (fun k_ => (P0_ k_ ∨ w.heap.size ≤ k_)) (.slice (some ⟨go5, 0, none⟩) x0_1.length co9) y198 from (by (with_reducible repeat (first | apply Kd.R_alloc | apply Kd.R_drewN | apply Kd.R_drew)); exact HO_0.out)); obtain ⟨ce12, hcl12, hM12, hcc12, hfr12⟩ := Kd.R_elem HX12.out z82 (x5_1 : Int) (of_decide_eq_true (by first | (with_reducible assumption) | assumption)) (by have h_ : (x5_1 : Int) < ((x0_1.length : Int) : Int) := of_decide_eq_true (by first | (with_reducible assumption) | assumption); first | exact h_ | (have e_ := (Kd.R_reads' HO_0.out).1; omega) | simpa using h_); obtain rfl := k82_openM hM12; have HP12 := Kd.R_seg HX12.out (x5_1 : Int) (of_decide_eq_true (by first | (with_reducible assumption) | assumption)) (by have h_ : (x5_1 : Int) < ((x0_1.length : Int) : Int) := of_decide_eq_true (by first | (with_reducible assumption) | assumption); first | exact h_ | (have e_ := (Kd.R_reads' HO_0.out).1; omega) | simpa using h_) (seg := [.int .i64 (wrap64 (x1_1 + 1))]) (j := 1) hcl12 hcc12 (show 2 ≤ 4 from by decide) (x' := (⟨(rd_T82 y198 x5_1).f0, wrap64 (x1_1 + 1), (rd_T82 y198 x5_1).f2, (rd_T82 y198 x5_1).f3⟩ : S82)) (k82_mkM _ _ _ (⟨(rd_T82 y198 x5_1).f0, wrap64 (x1_1 + 1), (rd_T82 y198 x5_1).f2, (rd_T82 y198 x5_1).f3⟩ : S82) ) (fun _ hk => hk); have hx12_1 := hcc12 1 _ rfl; (try simp only [show (k82).sz = 4 from rfl, Nat.mul_one, Nat.add_zero] at hx12_1); have hf12_1 := hfr12 1; (try simp only [show (k82).sz = 4 from rfl, Nat.mul_one, Nat.add_zero] at hf12_1); clear hcl12 hcc12 hfr12 hM12) | ((with_reducible refine gate_store (t := 3) (p := 23) rfl ?_); refine store_event (t := 3) (p := 23) (v := ?vo_w13) (w1 := (w11.setCell ⟨go5, (x5_1 : Int).toNat * 4 + 1, none⟩ (.int .i64 (wrap64 (x1_1 + 1))))) ?hg ?ho ?hn ?hr ?_; (case ho => rfl); (case hg => rfl); (case hn => rfl); (case hr => first | (go_simp; done) | (go_simp; rfl)); intro w13 hw; have hg : w11.grownBy w13 (some go5) := (by rw [hw]; exact HP12.2); have hp_ : Kd.R k82 82 w13 w0.heap.size (fun k_ => (P0_ k_ ∨ w.heap.size ≤ k_)) (.slice (some ⟨go5, 0, none⟩) x0_1.length co9) y199 := (by rw [hw, Ny199.out]; exact HP12.1); clear HP12; have n0_ := Aside0.mk (hp_); have n1_ := Aside0.mk ((by rw [hw]; exact below_set (HB.out) GB5.out : Below w0.heap.size w0 w13)); have n2_ := Aside0.mk (Kept.of_grown (S := (fun k_ => P0_ k_)) hg (by repeat (first | (with_reducible first | exact HK.out | apply Kept.alloc | apply Kept.drewN | apply Kept.drew) | exact HK.out)) (fun k_ e_ => (HO_0.out.1 k_ e_))); clear HO_0; clear HB; clear HK; have HO_0 := n0_; have HB := n1_; have HK := n2_; clear n0_ n1_ n2_; clear hg hw hp_; have p7 : 0 ≤ (x5_1 : Int) := of_decide_eq_true (by first | (with_reducible assumption) | assumption); have q7 : (x5_1 : Int) < ((x0_1.length : Int) : Int) := of_decide_eq_true (by first | (with_reducible assumption) | assumption); obtain ⟨ce7, hcl7, hM7, hcc7, hfr7⟩ := Kd.R_elem HO_0.out z82 (x5_1 : Int) p7 q7; obtain rfl := k82_openM hM7; have hx7_0 : w13.cell? ⟨go5, (x5_1 : Int).toNat * 4, none⟩ = some (.int .i64 ((rd_T82 y199 x5_1).f0)) := hcc7 0 _ rfl; have hx7_1 : w13.cell? ⟨go5, (x5_1 : Int).toNat * 4 + 1, none⟩ = some (.int .i64 ((rd_T82 y199 x5_1).f1)) := hcc7 1 _ rfl; have hx7_2 : w13.cell? ⟨go5, (x5_1 : Int).toNat * 4 + 2, none⟩ = some (.int .i64 ((rd_T82 y199 x5_1).f2)) := hcc7 2 _ rfl; have hx7_3 : w13.cell? ⟨go5, (x5_1 : Int).toNat * 4 + 3, none⟩ = some (.bool ((rd_T82 y199 x5_1).f3)) := hcc7 3 _ rfl; have hf7_0 : w13.frozen? ⟨go5, (x5_1 : Int).toNat * 4, none⟩ = false := hfr7 0; have hf7_1 : w13.frozen? ⟨go5, (x5_1 : Int).toNat * 4 + 1, none⟩ = false := hfr7 1; have hf7_2 : w13.frozen? ⟨go5, (x5_1 : Int).toNat * 4 + 2, none⟩ = false := hfr7 2; have hf7_3 : w13.frozen? ⟨go5, (x5_1 : Int).toNat * 4 + 3, none⟩ = false := hfr7 3; clear hcl7 hcc7 hfr7 hM7; replace p7 := eq_true p7; replace q7 := eq_true q7; have HX14 := Aside0.mk (show Kd.R k82 82 w13 w0.heap.size (fun k_ => (P0_ k_ ∨ w.heap.size ≤ k_)) (.slice (some ⟨go5, 0, none⟩) x0_1.length co9) y199 from (by (with_reducible repeat (first | apply Kd.R_alloc | apply Kd.R_drewN | apply Kd.R_drew)); exact HO_0.out)); obtain ⟨ce14, hcl14, hM14, hcc14, hfr14⟩ := Kd.R_elem HX14.out z82 (x5_1 : Int) (of_decide_eq_true (by first | (with_reducible assumption) | assumption)) (by have h_ : (x5_1 : Int) < ((x0_1.length : Int) : Int) := of_decide_eq_true (by first | (with_reducible assumption) | assumption); first | exact h_ | (have e_ := (Kd.R_reads' HO_0.out).1; omega) | simpa using h_); obtain rfl := k82_openM hM14; have HP14 := Kd.R_seg HX14.out (x5_1 : Int) (of_decide_eq_true (by first | (with_reducible assumption) | assumption)) (by have h_ : (x5_1 : Int) < ((x0_1.length : Int) : Int) := of_decide_eq_true (by first | (with_reducible assumption) | assumption); first | exact h_ | (have e_ := (Kd.R_reads' HO_0.out).1; omega) | simpa using h_) (seg := [.int .i64 (wrap64 ((wrap64 (x1_1 + 1)) + 1))]) (j := 2) hcl14 hcc14 (show 3 ≤ 4 from by decide) (x' := (⟨(rd_T82 y199 x5_1).f0, (rd_T82 y199 x5_1).f1, wrap64 ((wrap64 (x1_1 + 1)) + 1), (rd_T82 y199 x5_1).f3⟩ : S82)) (k82_mkM _ _ _ (⟨(rd_T82 y199 x5_1).f0, (rd_T82 y199 x5_1).f1, wrap64 ((wrap64 (x1_1 + 1)) + 1), (rd_T82 y199 x5_1).f3⟩ : S82) ) (fun _ hk => hk); have hx14_2 := hcc14 2 _ rfl; (try simp only [show (k82).sz = 4 from rfl, Nat.mul_one, Nat.add_zero] at hx14_2); have hf14_2 := hfr14 2; (try simp only [show (k82).sz = 4 from rfl, Nat.mul_one, Nat.add_zero] at hf14_2); clear hcl14 hcc14 hfr14 hM14) | ((with_reducible refine gate_store (t := 3) (p := 30) rfl ?_); refine store_event (t := 3) (p := 30) (v := ?vo_w15) (w1 := (w13.setCell ⟨go5, (x5_1 : Int).toNat * 4 + 2, none⟩ (.int .i64 (wrap64 ((wrap64 (x1_1 + 1)) + 1))))) ?hg ?ho ?hn ?hr ?_; (case ho => rfl); (case hg => rfl); (case hn => rfl); (case hr => first | (go_simp; done) | (go_simp; rfl)); intro w15 hw; have hg : w13.grownBy w15 (some go5) := (by rw [hw]; exact HP14.2); have hp_ : Kd.R k82 82 w15 w0.heap.size (fun k_ => (P0_ k_ ∨ w.heap.size ≤ k_)) (.slice (some ⟨go5, 0, none⟩) x0_1.length co9) y200 := (by rw [hw, Ny200.out]; exact HP14.1); clear HP14; have n0_ := Aside0.mk (hp_); have n1_ := Aside0.mk ((by rw [hw]; exact below_set (HB.out) GB5.out : Below w0.heap.size w0 w15)); have n2_ := Aside0.mk (Kept.of_grown (S := (fun k_ => P0_ k_)) hg (by repeat (first | (with_reducible first | exact HK.out | apply Kept.alloc | apply Kept.drewN | apply Kept.drew) | exact HK.out)) (fun k_ e_ => (HO_0.out.1 k_ e_))); clear HO_0; clear HB; clear HK; have HO_0 := n0_; have HB := n1_; have HK := n2_; clear n0_ n1_ n2_; clear hg hw hp_; have p8 : 0 ≤ (x5_1 : Int) := of_decide_eq_true (by first | (with_reducible assumption) | assumption); have q8 : (x5_1 : Int) < ((x0_1.length : Int) : Int) := of_decide_eq_true (by first | (with_reducible assumption) | assumption); obtain ⟨ce8, hcl8, hM8, hcc8, hfr8⟩ := Kd.R_elem HO_0.out z82 (x5_1 : Int) p8 q8; obtain rfl := k82_openM hM8; have hx8_0 : w15.cell? ⟨go5, (x5_1 : Int).toNat * 4, none⟩ = some (.int .i64 ((rd_T82 y200 x5_1).f0)) := hcc8 0 _ rfl; have hx8_1 : w15.cell? ⟨go5, (x5_1 : Int).toNat * 4 + 1, none⟩ = some (.int .i64 ((rd_T82 y200 x5_1).f1)) := hcc8 1 _ rfl; have hx8_2 : w15.cell? ⟨go5, (x5_1 : Int).toNat * 4 + 2, none⟩ = some (.int .i64 ((rd_T82 y200 x5_1).f2)) := hcc8 2 _ rfl; have hx8_3 : w15.cell? ⟨go5, (x5_1 : Int).toNat * 4 + 3, none⟩ = some (.bool ((rd_T82 y200 x5_1).f3)) := hcc8 3 _ rfl; have hf8_0 : w15.frozen? ⟨go5, (x5_1 : Int).toNat * 4, none⟩ = false := hfr8 0; have hf8_1 : w15.frozen? ⟨go5, (x5_1 : Int).toNat * 4 + 1, none⟩ = false := hfr8 1; have hf8_2 : w15.frozen? ⟨go5, (x5_1 : Int).toNat * 4 + 2, none⟩ = false := hfr8 2; have hf8_3 : w15.frozen? ⟨go5, (x5_1 : Int).toNat * 4 + 3, none⟩ = false := hfr8 3; clear hcl8 hcc8 hfr8 hM8; replace p8 := eq_true p8; replace q8 := eq_true q8; have HX16 := Aside0.mk (show Kd.R k82 82 w15 w0.heap.size (fun k_ => (P0_ k_ ∨ w.heap.size ≤ k_)) (.slice (some ⟨go5, 0, none⟩) x0_1.length co9) y200 from (by (with_reducible repeat (first | apply Kd.R_alloc | apply Kd.R_drewN | apply Kd.R_drew)); exact HO_0.out)); obtain ⟨ce16, hcl16, hM16, hcc16, hfr16⟩ := Kd.R_elem HX16.out z82 (x5_1 : Int) (of_decide_eq_true (by first | (with_reducible assumption) | assumption)) (by have h_ : (x5_1 : Int) < ((x0_1.length : Int) : Int) := of_decide_eq_true (by first | (with_reducible assumption) | assumption); first | exact h_ | (have e_ := (Kd.R_reads' HO_0.out).1; omega) | simpa using h_); obtain rfl := k82_openM hM16; have HP16 := Kd.R_seg HX16.out (x5_1 : Int) (of_decide_eq_true (by first | (with_reducible assumption) | assumption)) (by have h_ : (x5_1 : Int) < ((x0_1.length : Int) : Int) := of_decide_eq_true (by first | (with_reducible assumption) | assumption); first | exact h_ | (have e_ := (Kd.R_reads' HO_0.out).1; omega) | simpa using h_) (seg := [.bool ((Int.tmod (wrap64 ((wrap64 ((wrap64 (x1_1 + 1)) + 1)) + 1)) 3) == 0)]) (j := 3) hcl16 hcc16 (show 4 ≤ 4 from by decide) (x' := (⟨(rd_T82 y200 x5_1).f0, (rd_T82 y200 x5_1).f1, (rd_T82 y200 x5_1).f2, ((Int.tmod (wrap64 ((wrap64 ((wrap64 (x1_1 + 1)) + 1)) + 1)) 3) == 0)⟩ : S82)) (k82_mkM _ _ _ (⟨(rd_T82 y200 x5_1).f0, (rd_T82 y200 x5_1).f1, (rd_T82 y200 x5_1).f2, ((Int.tmod (wrap64 ((wrap64 ((wrap64 (x1_1 + 1)) + 1)) + 1)) 3) == 0)⟩ : S82) ) (fun _ hk => hk); have hx16_3 := hcc16 3 _ rfl; (try simp only [show (k82).sz = 4 from rfl, Nat.mul_one, Nat.add_zero] at hx16_3); have hf16_3 := hfr16 3; (try simp only [show (k82).sz = 4 from rfl, Nat.mul_one, Nat.add_zero] at hf16_3); clear hcl16 hcc16 hfr16 hM16) | ((with_reducible refine gate_store (t := 4) (p := 39) rfl ?_); refine store_event (t := 4) (p := 39) (v := ?vo_w17) (w1 := (w15.setCell ⟨go5, (x5_1 : Int).toNat * 4 + 3, none⟩ (.bool ((Int.tmod (wrap64 ((wrap64 ((wrap64 (x1_1 + 1)) + 1)) + 1)) 3) == 0)))) ?hg ?ho ?hn ?hr ?_; (case ho => rfl); (case hg => rfl); (case hn => rfl); (case hr => first | (go_simp; done) | (go_simp; rfl)); intro w17 hw; have hg : w15.grownBy w17 (some go5) := (by rw [hw]; exact HP16.2); have hp_ : Kd.R k82 82 w17 w0.heap.size (fun k_ => (P0_ k_ ∨ w.heap.size ≤ k_)) (.slice (some ⟨go5, 0, none⟩) x0_1.length co9) y201 := (by rw [hw, Ny201.out]; exact HP16.1); clear HP16; have n0_ := Aside0.mk (hp_); have n1_ := Aside0.mk ((by rw [hw]; exact below_set (HB.out) GB5.out : Below w0.heap.size w0 w17)); have n2_ := Aside0.mk (Kept.of_grown (S := (fun k_ => P0_ k_)) hg (by repeat (first | (with_reducible first | exact HK.out | apply Kept.alloc | apply Kept.drewN | apply Kept.drew) | exact HK.out)) (fun k_ e_ => (HO_0.out.1 k_ e_))); clear HO_0; clear HB; clear HK; have HO_0 := n0_; have HB := n1_; have HK := n2_; clear n0_ n1_ n2_; clear hg hw hp_))
          go_roundg k1
          case measure => have := HK1.out; omega
          case rel => exact ⟨(y201), (wrap64 ((wrap64 ((wrap64 ((wrap64 (x1_1 + 1)) + 1)) + 1)) + 1)), (wrap64 (x5_1 + 1)), (by first | rfl | (simp; done) | (simp [*]; done)), (by first | rfl | (simp; done) | (simp [*]; done)), H', ⟨by have := HK1.out; omega⟩, ⟨by (with_reducible repeat (first | apply Kd.R_alloc | apply Kd.R_drewN | apply Kd.R_drew)); exact HO_0.out⟩, ⟨by repeat (first | (with_reducible first | exact HK.out | apply Kept.alloc | apply Kept.drewN | apply Kept.drew) | exact HK.out)⟩, ⟨by repeat (first | (with_reducible first | exact HB.out | apply below_alloc | apply pw_below_drewN | apply below_drew1) | exact HB.out)⟩⟩
        · rw [if_neg c4] at H
          exact absurd H (by simp)
      · rw [if_neg c3] at H
        have c3b0 : decide (x5_1 < (x0_1.length : Int)) = false := decide_eq_false c3
        clear c3
        simp only [Option.some.injEq, Prod.mk.injEq] at H
        obtain ⟨rfl, rfl⟩ := H
        obtain ⟨Ao18, co18, eo18⟩ := Kd.R_slice HO_0.out
        subst eo18
        go_wp2
        go_ret
        exact ⟨by first | rfl | (simp [errW_none, errW_some] <;> rfl) | (simp [*, errW_none, errW_some] <;> rfl), by (with_reducible repeat (first | apply Kd.R_alloc | apply Kd.R_drewN | apply Kd.R_drew)); exact HO_0.out, by repeat (first | (with_reducible first | exact HB.out | apply below_alloc | apply pw_below_drewN | apply below_drew1) | exact HB.out), by repeat (first | (with_reducible first | exact HK.out | apply Kept.alloc | apply Kept.drewN | apply Kept.drew) | exact HK.out)⟩

/-! ### laws_heldIntS: function 37 -/
def laws_heldIntS.l0 : Nat → List Int → Int → Int → Option (Int)
  | 0, _, _, _ => none
  | k + 1, x0, x1, x5 => if x5 < (x0.length : Int) then (if 0 ≤ x5 then (if (rd x0 x5) = x1 then (laws_heldIntS.l0 k x0 (wrap64 (x1 + 1)) (wrap64 (x5 + 1))) else (some (-1))) else (none)) else (some x1)
def laws_heldIntS.f (k : Nat) (l0 : List Int) (a1 : Int) : Option (Int) := laws_heldIntS.l0 k l0 a1 0
theorem laws_heldIntS.mono_l : ∀ k, (∀ y0 y1 y2, LeO (laws_heldIntS.l0 k y0 y1 y2) (laws_heldIntS.l0 (k + 1) y0 y1 y2))
  | 0 => fun _ _ _ r h => by simp [laws_heldIntS.l0] at h
  | k + 1 => by
    have ih0 := laws_heldIntS.mono_l k
    · intro y0 y1 y2
      unfold laws_heldIntS.l0
      repeat' first
      | (with_reducible exact ih0 _ _ _)
      | (with_reducible exact LeO.refl _)
      | (with_reducible exact LeO.none _)
      | (with_reducible refine LeO.ite ?_ ?_)
      | (with_reducible refine LeO.bind ?_ (fun _ => ?_))
      | exact ih0 _ _ _
      | exact LeO.none _
      | refine LeO.ite ?_ ?_
      | refine LeO.bind ?_ (fun _ => ?_)
theorem laws_heldIntS.mono : ∀ a0 a1 k, LeO (laws_heldIntS.f k a0 a1) (laws_heldIntS.f (k + 1) a0 a1) := by
  intro a0 a1 k
  have ih0 := laws_heldIntS.mono_l k
  unfold laws_heldIntS.f
  repeat' first
      | (with_reducible exact ih0 _ _ _)
      | (with_reducible exact LeO.refl _)
      | (with_reducible exact LeO.none _)
      | (with_reducible refine LeO.ite ?_ ?_)
      | (with_reducible refine LeO.bind ?_ (fun _ => ?_))
      | exact ih0 _ _ _
      | exact LeO.none _
      | refine LeO.ite ?_ ?_
      | refine LeO.bind ?_ (fun _ => ?_)
set_option maxHeartbeats 8000000 in
set_option maxRecDepth 100000 in
theorem laws_heldIntS.calls (k : Nat) (A0 : Option Addr) (c0 : Nat) (l0 : List Int) (a1 : Int) (r : Int) (w : World) (hr0 : Kd.C (Kd.int .i64) w A0 l0.length l0) (hc0 : l0.length ≤ c0) (h : laws_heldIntS.f k l0 a1 = some r) :
    Calls Try.prog 37 #[.slice A0 l0.length c0, .int .i64 a1] w fun e w' => e = .returned (.int .i64 r) ∧ Drawn0 w w' := by
  have HR0 := Aside0.mk hr0
  have HC0 := Aside0.mk hc0
  clear hr0 hc0
  have H : (laws_heldIntS.l0 k l0 a1 0) = some r := h
  clear h
  have H' := Aside0.mk H
  clear H
  go_enter Try.func37, Try.ntmps37
  go_wp2
  go_loopg [1, 5] k (fun kq v1 v5 w' => ∃ (x1_1 : Int) (x5_1 : Int), v1 = .int .i64 x1_1 ∧ v5 = .int .i64 x5_1 ∧ Aside0 (laws_heldIntS.l0 kq l0 x1_1 x5_1 = some r) ∧ Aside0 (kq ≤ k) ∧ Drawn0 w w')
  case atStart => exact ⟨(a1), (0), (by first | rfl | (simp; done) | (simp [*]; done)), (by first | rfl | (simp; done) | (simp [*]; done)), H', ⟨Nat.le_refl _⟩, by repeat (first | exact Drawn0.refl _ | apply Drawn0.step)⟩
  case round =>
    clear H'
    try clear p2
    obtain ⟨x1_1, x5_1, rfl, rfl, HA, HK1, ⟨m1, rfl⟩⟩ := hrel
    cases gk with
    | zero => exact absurd HA.out (by simp [laws_heldIntS.l0])
    | succ k1 =>
      have H := HA.out
      clear HA
      simp only [laws_heldIntS.l0] at H
      by_cases c3 : x5_1 < (l0.length : Int)
      · rw [if_pos c3] at H
        have c3b0 : decide (x5_1 < (l0.length : Int)) = true := decide_eq_true c3
        clear c3
        by_cases c4 : 0 ≤ x5_1
        · rw [if_pos c4] at H
          have c4b0 : decide (0 ≤ x5_1) = true := decide_eq_true c4
          clear c4
          by_cases c5 : (rd l0 x5_1) = x1_1
          · rw [if_pos c5] at H
            have c5b0 : ((rd l0 x5_1) == x1_1) = true := beq_iff_eq.mpr c5
            have c5b1 : ((rd l0 x5_1) != x1_1) = false := bne_eq_false_iff_eq.mpr c5
            clear c5
            have H' := Aside0.mk H
            clear H
            have p202 : 0 ≤ (x5_1 : Int) := of_decide_eq_true (by first | (with_reducible assumption) | assumption)
            have q202 : x5_1 < (l0.length : Int) := of_decide_eq_true (by first | (with_reducible assumption) | assumption)
            obtain ⟨ad202, e202, hx202_0⟩ := Kd.at_int HR0.out x5_1 p202 q202
            cases e202
            replace p202 := eq_true p202
            replace q202 := eq_true q202
            go_wp2
            go_roundg k1
            case measure => have := HK1.out; omega
            case rel => exact ⟨(wrap64 (x1_1 + 1)), (wrap64 (x5_1 + 1)), (by first | rfl | (simp; done) | (simp [*]; done)), (by first | rfl | (simp; done) | (simp [*]; done)), H', ⟨by have := HK1.out; omega⟩, by repeat (first | exact Drawn0.refl _ | apply Drawn0.step)⟩
          · rw [if_neg c5] at H
            have c5b0 : ((rd l0 x5_1) == x1_1) = false := beq_eq_false_iff_ne.mpr c5
            have c5b1 : ((rd l0 x5_1) != x1_1) = true := bne_iff_ne.mpr c5
            obtain rfl := Option.some.inj H
            have p202 : 0 ≤ (x5_1 : Int) := of_decide_eq_true (by first | (with_reducible assumption) | assumption)
            have q202 : x5_1 < (l0.length : Int) := of_decide_eq_true (by first | (with_reducible assumption) | assumption)
            obtain ⟨ad202, e202, hx202_0⟩ := Kd.at_int HR0.out x5_1 p202 q202
            cases e202
            replace p202 := eq_true p202
            replace q202 := eq_true q202
            go_wp2
            go_ret
            exact ⟨by first | rfl | (simp; done) | (simp [*]; done), by repeat (first | exact Drawn0.refl _ | apply Drawn0.step)⟩
        · rw [if_neg c4] at H
          exact absurd H (by simp)
      · rw [if_neg c3] at H
        have c3b0 : decide (x5_1 < (l0.length : Int)) = false := decide_eq_false c3
        clear c3
        obtain rfl := Option.some.inj H
        go_wp2
        go_ret
        exact ⟨by first | rfl | (simp; done) | (simp [*]; done), by repeat (first | exact Drawn0.refl _ | apply Drawn0.step)⟩

end Go.Proofs.Ytpoblnigmfbnfac.PFnExactSlotCost
