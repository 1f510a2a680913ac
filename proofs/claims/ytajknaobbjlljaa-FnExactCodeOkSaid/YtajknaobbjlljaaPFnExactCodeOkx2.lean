-- PRINTED BY print.sh 35421559b90ae4d0a3588c463048766b98c2df88dd9212a6774a882060cdf62d: not written by this session
import Derived.Test.YtajknaobbjlljaaPFnExactCodeOkx0
import Derived.Test.YtajknaobbjlljaaPFnExactCodeOkx1
namespace Go.Proofs.Ytajknaobbjlljaa.PFnExactCodeOk
open Go.RowKit Go.Proofs.YtajknaobbjlljaaW.PrintWords Go.Proofs.YtajknaobbjlljaaW.PrintLast Go.Proofs.YtajknaobbjlljaaW.PrintMore
attribute [local go_sem] max2_int min2_int max_two min_two max_three min_three max_four min_four   -- for this text's walks alone
set_option linter.unusedVariables false
set_option linter.unusedSimpArgs false

/-! ### spec_l13Instr: function 73 -/
mutual
def spec_l13Instr.j0 : Nat → Int → Bool → Int → Int → Int → Int → Option (Bool)
  | 0, _, _, _, _, _, _ => none
  | k + 1, x4, x35, x104000, x104001, x104002, x104003 => if x35 = true then ((spec_l5In.f x104001 0 31).bind fun t105 => (if t105 = true then ((spec_l13Num.f x104002).bind fun t106 => (if t106 = true then (some (x104003 == 0)) else (some false))) else (some false))) else (if x4 = 5 then ((spec_l5In.f x104001 1 8).bind fun t107 => (if t107 = true then (if x104002 = 0 then (some (x104003 == 0)) else (some false)) else (some false))) else (if x4 = 6 then (spec_l13Instr.j1 k x4 (x4 == 6) x104000 x104001 x104002 x104003) else (if x4 = 7 then (spec_l13Instr.j1 k x4 (x4 == 7) x104000 x104001 x104002 x104003) else (spec_l13Instr.j1 k x4 (x4 == 8) x104000 x104001 x104002 x104003))))
def spec_l13Instr.j1 : Nat → Int → Bool → Int → Int → Int → Int → Option (Bool)
  | 0, _, _, _, _, _, _ => none
  | k + 1, x4, x66, x104000, x104001, x104002, x104003 => if x66 = true then ((spec_l13Reg.f x104001).bind fun t108 => (if t108 = true then ((spec_l5In.f x104002 0 31).bind fun t109 => (if t109 = true then ((spec_l13Num.f x104003).bind fun t110 => (some t110)) else (some false))) else (some false))) else (if x4 = 9 then ((spec_l13Reg.f x104001).bind fun t111 => (if t111 = true then ((spec_l5In.f x104002 0 2147483646).bind fun t112 => (if t112 = true then (some (x104003 == 0)) else (some false))) else (some false))) else (if x4 = 10 then (spec_l13Instr.j2 k x4 (x4 == 10) x104000 x104001 x104002 x104003) else (if x4 = 11 then (spec_l13Instr.j2 k x4 (x4 == 11) x104000 x104001 x104002 x104003) else (spec_l13Instr.j2 k x4 (x4 == 12) x104000 x104001 x104002 x104003))))
def spec_l13Instr.j2 : Nat → Int → Bool → Int → Int → Int → Int → Option (Bool)
  | 0, _, _, _, _, _, _ => none
  | k + 1, x4, x98, x104000, x104001, x104002, x104003 => if x98 = true then ((spec_l13Reg.f x104001).bind fun t113 => (if t113 = true then ((spec_l13Reg.f x104002).bind fun t114 => (if t114 = true then ((spec_l13Reg.f x104003).bind fun t115 => (some t115)) else (some false))) else (some false))) else (if x4 = 13 then (spec_l13Instr.j3 k (x4 == 13) x104000 x104001 x104002 x104003) else (if x4 = 14 then (spec_l13Instr.j3 k (x4 == 14) x104000 x104001 x104002 x104003) else (if x4 = 15 then (spec_l13Instr.j3 k (x4 == 15) x104000 x104001 x104002 x104003) else (spec_l13Instr.j3 k (x4 == 16) x104000 x104001 x104002 x104003))))
def spec_l13Instr.j3 : Nat → Bool → Int → Int → Int → Int → Option (Bool)
  | 0, _, _, _, _, _ => none
  | k + 1, x115, x104000, x104001, x104002, x104003 => if x115 = true then ((spec_l13Reg.f x104001).bind fun t116 => (if t116 = true then ((spec_l13Reg.f x104002).bind fun t117 => (if t117 = true then (some (x104003 == 0)) else (some false))) else (some false))) else (some false)
end
def spec_l13Instr.f (k : Nat) (a0_0 : Int) (a0_1 : Int) (a0_2 : Int) (a0_3 : Int) : Option (Bool) := if a0_0 = 1 then ((spec_l5In.f a0_1 1 65536).bind fun t104 => (if t104 = true then (if a0_2 = 0 then (some (a0_3 == 0)) else (some false)) else (some false))) else (if a0_0 = 2 then (if a0_1 = 0 then (if a0_2 = 0 then (some (a0_3 == 0)) else (some false)) else (some false)) else (if a0_0 = 3 then (spec_l13Instr.j0 k a0_0 (a0_0 == 3) a0_0 a0_1 a0_2 a0_3) else (spec_l13Instr.j0 k a0_0 (a0_0 == 4) a0_0 a0_1 a0_2 a0_3)))
theorem spec_l13Instr.mono_l : ∀ k, (∀ y0 y1 y2 y3 y4 y5, LeO (spec_l13Instr.j0 k y0 y1 y2 y3 y4 y5) (spec_l13Instr.j0 (k + 1) y0 y1 y2 y3 y4 y5)) ∧ (∀ y0 y1 y2 y3 y4 y5, LeO (spec_l13Instr.j1 k y0 y1 y2 y3 y4 y5) (spec_l13Instr.j1 (k + 1) y0 y1 y2 y3 y4 y5)) ∧ (∀ y0 y1 y2 y3 y4 y5, LeO (spec_l13Instr.j2 k y0 y1 y2 y3 y4 y5) (spec_l13Instr.j2 (k + 1) y0 y1 y2 y3 y4 y5)) ∧ (∀ y0 y1 y2 y3 y4, LeO (spec_l13Instr.j3 k y0 y1 y2 y3 y4) (spec_l13Instr.j3 (k + 1) y0 y1 y2 y3 y4))
  | 0 => ⟨fun _ _ _ _ _ _ r h => by simp [spec_l13Instr.j0] at h, fun _ _ _ _ _ _ r h => by simp [spec_l13Instr.j1] at h, fun _ _ _ _ _ _ r h => by simp [spec_l13Instr.j2] at h, fun _ _ _ _ _ r h => by simp [spec_l13Instr.j3] at h⟩
  | k + 1 => by
    obtain ⟨ih0, ih1, ih2, ih3⟩ := spec_l13Instr.mono_l k
    refine ⟨?_, ?_, ?_, ?_⟩
    · intro y0 y1 y2 y3 y4 y5
      unfold spec_l13Instr.j0
      repeat' first
      | (with_reducible exact ih0 _ _ _ _ _ _)
      | (with_reducible exact ih1 _ _ _ _ _ _)
      | (with_reducible exact ih2 _ _ _ _ _ _)
      | (with_reducible exact ih3 _ _ _ _ _)
      | (with_reducible exact LeO.refl _)
      | (with_reducible exact LeO.none _)
      | (with_reducible refine LeO.ite ?_ ?_)
      | (with_reducible refine LeO.bind ?_ (fun _ => ?_))
      | exact ih0 _ _ _ _ _ _
      | exact ih1 _ _ _ _ _ _
      | exact ih2 _ _ _ _ _ _
      | exact ih3 _ _ _ _ _
      | exact LeO.none _
      | refine LeO.ite ?_ ?_
      | refine LeO.bind ?_ (fun _ => ?_)
    · intro y0 y1 y2 y3 y4 y5
      unfold spec_l13Instr.j1
      repeat' first
      | (with_reducible exact ih0 _ _ _ _ _ _)
      | (with_reducible exact ih1 _ _ _ _ _ _)
      | (with_reducible exact ih2 _ _ _ _ _ _)
      | (with_reducible exact ih3 _ _ _ _ _)
      | (with_reducible exact LeO.refl _)
      | (with_reducible exact LeO.none _)
      | (with_reducible refine LeO.ite ?_ ?_)
      | (with_reducible refine LeO.bind ?_ (fun _ => ?_))
      | exact ih0 _ _ _ _ _ _
      | exact ih1 _ _ _ _ _ _
      | exact ih2 _ _ _ _ _ _
      | exact ih3 _ _ _ _ _
      | exact LeO.none _
      | refine LeO.ite ?_ ?_
      | refine LeO.bind ?_ (fun _ => ?_)
    · intro y0 y1 y2 y3 y4 y5
      unfold spec_l13Instr.j2
      repeat' first
      | (with_reducible exact ih0 _ _ _ _ _ _)
      | (with_reducible exact ih1 _ _ _ _ _ _)
      | (with_reducible exact ih2 _ _ _ _ _ _)
      | (with_reducible exact ih3 _ _ _ _ _)
      | (with_reducible exact LeO.refl _)
      | (with_reducible exact LeO.none _)
      | (with_reducible refine LeO.ite ?_ ?_)
      | (with_reducible refine LeO.bind ?_ (fun _ => ?_))
      | exact ih0 _ _ _ _ _ _
      | exact ih1 _ _ _ _ _ _
      | exact ih2 _ _ _ _ _ _
      | exact ih3 _ _ _ _ _
      | exact LeO.none _
      | refine LeO.ite ?_ ?_
      | refine LeO.bind ?_ (fun _ => ?_)
    · intro y0 y1 y2 y3 y4
      unfold spec_l13Instr.j3
      repeat' first
      | (with_reducible exact ih0 _ _ _ _ _ _)
      | (with_reducible exact ih1 _ _ _ _ _ _)
      | (with_reducible exact ih2 _ _ _ _ _ _)
      | (with_reducible exact ih3 _ _ _ _ _)
      | (with_reducible exact LeO.refl _)
      | (with_reducible exact LeO.none _)
      | (with_reducible refine LeO.ite ?_ ?_)
      | (with_reducible refine LeO.bind ?_ (fun _ => ?_))
      | exact ih0 _ _ _ _ _ _
      | exact ih1 _ _ _ _ _ _
      | exact ih2 _ _ _ _ _ _
      | exact ih3 _ _ _ _ _
      | exact LeO.none _
      | refine LeO.ite ?_ ?_
      | refine LeO.bind ?_ (fun _ => ?_)
theorem spec_l13Instr.mono : ∀ a0 a1 a2 a3 k, LeO (spec_l13Instr.f k a0 a1 a2 a3) (spec_l13Instr.f (k + 1) a0 a1 a2 a3) := by
  intro a0 a1 a2 a3 k
  obtain ⟨ih0, ih1, ih2, ih3⟩ := spec_l13Instr.mono_l k
  unfold spec_l13Instr.f
  repeat' first
      | (with_reducible exact ih0 _ _ _ _ _ _)
      | (with_reducible exact ih1 _ _ _ _ _ _)
      | (with_reducible exact ih2 _ _ _ _ _ _)
      | (with_reducible exact ih3 _ _ _ _ _)
      | (with_reducible exact LeO.refl _)
      | (with_reducible exact LeO.none _)
      | (with_reducible refine LeO.ite ?_ ?_)
      | (with_reducible refine LeO.bind ?_ (fun _ => ?_))
      | exact ih0 _ _ _ _ _ _
      | exact ih1 _ _ _ _ _ _
      | exact ih2 _ _ _ _ _ _
      | exact ih3 _ _ _ _ _
      | exact LeO.none _
      | refine LeO.ite ?_ ?_
      | refine LeO.bind ?_ (fun _ => ?_)
set_option maxHeartbeats 8000000 in
set_option maxRecDepth 100000 in
theorem spec_l13Instr.calls (k : Nat) (a0_0 : Int) (a0_1 : Int) (a0_2 : Int) (a0_3 : Int) (r : Bool) (w : World) (h : spec_l13Instr.f k a0_0 a0_1 a0_2 a0_3 = some r) :
    Calls Try.prog 73 #[.agg #[.int .i64 a0_0, .int .i64 a0_1, .int .i64 a0_2, .int .i64 a0_3]] w fun e w' => e = .returned (.bool r) ∧ Below w.heap.size w w' := by
  have hu83 := Try.underlying83
  have HB := Aside0.mk (Below.refl w.heap.size w)
  have H : (if a0_0 = 1 then ((spec_l5In.f a0_1 1 65536).bind fun t104 => (if t104 = true then (if a0_2 = 0 then (some (a0_3 == 0)) else (some false)) else (some false))) else (if a0_0 = 2 then (if a0_1 = 0 then (if a0_2 = 0 then (some (a0_3 == 0)) else (some false)) else (some false)) else (if a0_0 = 3 then (spec_l13Instr.j0 k a0_0 (a0_0 == 3) a0_0 a0_1 a0_2 a0_3) else (spec_l13Instr.j0 k a0_0 (a0_0 == 4) a0_0 a0_1 a0_2 a0_3)))) = some r := h
  clear h
  by_cases c2 : a0_0 = 1
  · rw [if_pos c2] at H
    have c2b0 : (a0_0 == 1) = true := beq_iff_eq.mpr c2
    have c2b1 : (a0_0 != 1) = false := bne_eq_false_iff_eq.mpr c2
    clear c2
    replace H := Option.bind_eq_some_iff.mp H
    obtain ⟨t104, A30, H⟩ := H
    replace H : (if t104 = true then (if a0_2 = 0 then (some (a0_3 == 0)) else (some false)) else (some false)) = some r := H
    have A3 := Aside0.mk A30
    clear A30
    by_cases c4 : t104 = true
    · subst c4
      have H1 : (if a0_2 = 0 then (some (a0_3 == 0)) else (some false)) = some r := by rw [if_pos rfl] at H; exact H
      clear H
      have H := H1
      clear H1
      by_cases c5 : a0_2 = 0
      · rw [if_pos c5] at H
        have c5b0 : (a0_2 == 0) = true := beq_iff_eq.mpr c5
        have c5b1 : (a0_2 != 0) = false := bne_eq_false_iff_eq.mpr c5
        clear c5
        obtain rfl := Option.some.inj H
        go_enter Try.func73, Try.ntmps73
        go_wp2_with (first | ((with_reducible refine gate_dst (N := 1) rfl ?_); refine box_event ?hg (N := 1) ?hd (cs := #[.int .i64 a0_0, .int .i64 a0_1, .int .i64 a0_2, .int .i64 a0_3]) (t := 83) ?hr ?_; (case hd => rfl); (case hg => rfl); (case hr => first | (go_simp; done) | (go_simp; rfl)); intro gb103 hg w6 hbox hb; have n0_ := Aside0.mk (below_step (by repeat (first | (with_reducible first | exact HB.out | apply below_alloc | apply pw_below_drewN | apply below_drew1) | exact HB.out)) hb); have n1_ := Aside0.mk (hbox); have n2_ := Aside0.mk ((by rw [hg]; exact (below_size (by repeat (first | (with_reducible first | exact HB.out | apply below_alloc | apply pw_below_drewN | apply below_drew1) | exact HB.out))) : w.heap.size ≤ gb103)); have n3_ := Aside0.mk ((by rw [hg]; exact (below_size (by repeat (first | (with_reducible first | exact HB.out | apply below_alloc | apply pw_below_drewN | apply below_drew1) | exact HB.out))) : w.heap.size ≤ gb103)); clear HB; have HB := n0_; have BK103 := n1_; have GW103 := n2_; have GE103 := n3_; clear n0_ n1_ n2_ n3_; clear hb hbox hg; have hcz7_0 : w6.cell? ⟨gb103, 0, none⟩ = some (.int .i64 a0_0) := (blk_cell BK103.out 0).trans rfl; have hcz7_1 : w6.cell? ⟨gb103, 1, none⟩ = some (.int .i64 a0_1) := (blk_cell BK103.out 1).trans rfl; have hcz7_2 : w6.cell? ⟨gb103, 2, none⟩ = some (.int .i64 a0_2) := (blk_cell BK103.out 2).trans rfl; have hcz7_3 : w6.cell? ⟨gb103, 3, none⟩ = some (.int .i64 a0_3) := (blk_cell BK103.out 3).trans rfl; have hfz7_0 := blk_frozen BK103.out 0; have hfz7_1 := blk_frozen BK103.out 1; have hfz7_2 := blk_frozen BK103.out 2; have hfz7_3 := blk_frozen BK103.out 3) | ((with_reducible refine gate_callee (f := 62) rfl ?_); refine goesL_ (some 9) rfl rfl Try.func62 (by kernel_rfl) rfl #[.int .i64 a0_1, .int .i64 1, .int .i64 65536] rfl (by (try simp only [List.map_toArray, List.map_cons, List.map_nil]); first | done | rfl | (simp only [List.length_drop, List.length_take]; rfl)) ?_; (with_reducible refine (spec_l5In.calls a0_1 1 65536 true _ A3.out).mono ?_); rintro e w' ⟨rfl, ⟨nd, rfl⟩⟩; refine ⟨_, rfl, ?_⟩))
        go_ret
        exact ⟨by first | rfl | (simp [errW_none, errW_some] <;> rfl) | (simp [*, errW_none, errW_some] <;> rfl), by repeat (first | (with_reducible first | exact HB.out | apply below_alloc | apply pw_below_drewN | apply below_drew1 | refine below_set ?_ GE103.out) | exact HB.out)⟩
      · rw [if_neg c5] at H
        have c5b0 : (a0_2 == 0) = false := beq_eq_false_iff_ne.mpr c5
        have c5b1 : (a0_2 != 0) = true := bne_iff_ne.mpr c5
        obtain rfl := Option.some.inj H
        go_enter Try.func73, Try.ntmps73
        go_wp2_with (first | ((with_reducible refine gate_dst (N := 1) rfl ?_); refine box_event ?hg (N := 1) ?hd (cs := #[.int .i64 a0_0, .int .i64 a0_1, .int .i64 a0_2, .int .i64 a0_3]) (t := 83) ?hr ?_; (case hd => rfl); (case hg => rfl); (case hr => first | (go_simp; done) | (go_simp; rfl)); intro gb103 hg w8 hbox hb; have n0_ := Aside0.mk (below_step (by repeat (first | (with_reducible first | exact HB.out | apply below_alloc | apply pw_below_drewN | apply below_drew1) | exact HB.out)) hb); have n1_ := Aside0.mk (hbox); have n2_ := Aside0.mk ((by rw [hg]; exact (below_size (by repeat (first | (with_reducible first | exact HB.out | apply below_alloc | apply pw_below_drewN | apply below_drew1) | exact HB.out))) : w.heap.size ≤ gb103)); have n3_ := Aside0.mk ((by rw [hg]; exact (below_size (by repeat (first | (with_reducible first | exact HB.out | apply below_alloc | apply pw_below_drewN | apply below_drew1) | exact HB.out))) : w.heap.size ≤ gb103)); clear HB; have HB := n0_; have BK103 := n1_; have GW103 := n2_; have GE103 := n3_; clear n0_ n1_ n2_ n3_; clear hb hbox hg; have hcz9_0 : w8.cell? ⟨gb103, 0, none⟩ = some (.int .i64 a0_0) := (blk_cell BK103.out 0).trans rfl; have hcz9_1 : w8.cell? ⟨gb103, 1, none⟩ = some (.int .i64 a0_1) := (blk_cell BK103.out 1).trans rfl; have hcz9_2 : w8.cell? ⟨gb103, 2, none⟩ = some (.int .i64 a0_2) := (blk_cell BK103.out 2).trans rfl; have hcz9_3 : w8.cell? ⟨gb103, 3, none⟩ = some (.int .i64 a0_3) := (blk_cell BK103.out 3).trans rfl; have hfz9_0 := blk_frozen BK103.out 0; have hfz9_1 := blk_frozen BK103.out 1; have hfz9_2 := blk_frozen BK103.out 2; have hfz9_3 := blk_frozen BK103.out 3) | ((with_reducible refine gate_callee (f := 62) rfl ?_); refine goesL_ (some 9) rfl rfl Try.func62 (by kernel_rfl) rfl #[.int .i64 a0_1, .int .i64 1, .int .i64 65536] rfl (by (try simp only [List.map_toArray, List.map_cons, List.map_nil]); first | done | rfl | (simp only [List.length_drop, List.length_take]; rfl)) ?_; (with_reducible refine (spec_l5In.calls a0_1 1 65536 true _ A3.out).mono ?_); rintro e w' ⟨rfl, ⟨nd, rfl⟩⟩; refine ⟨_, rfl, ?_⟩))
        go_ret
        exact ⟨by first | rfl | (simp [errW_none, errW_some] <;> rfl) | (simp [*, errW_none, errW_some] <;> rfl), by repeat (first | (with_reducible first | exact HB.out | apply below_alloc | apply pw_below_drewN | apply below_drew1 | refine below_set ?_ GE103.out) | exact HB.out)⟩
    · replace c4 := Bool.eq_false_iff.mpr c4
      subst c4
      have H1 : (some false) = some r := by rw [if_neg (show ¬ (false = true) by decide)] at H; exact H
      clear H
      have H := H1
      clear H1
      obtain rfl := Option.some.inj H
      go_enter Try.func73, Try.ntmps73
      go_wp2_with (first | ((with_reducible refine gate_dst (N := 1) rfl ?_); refine box_event ?hg (N := 1) ?hd (cs := #[.int .i64 a0_0, .int .i64 a0_1, .int .i64 a0_2, .int .i64 a0_3]) (t := 83) ?hr ?_; (case hd => rfl); (case hg => rfl); (case hr => first | (go_simp; done) | (go_simp; rfl)); intro gb103 hg w10 hbox hb; have n0_ := Aside0.mk (below_step (by repeat (first | (with_reducible first | exact HB.out | apply below_alloc | apply pw_below_drewN | apply below_drew1) | exact HB.out)) hb); have n1_ := Aside0.mk (hbox); have n2_ := Aside0.mk ((by rw [hg]; exact (below_size (by repeat (first | (with_reducible first | exact HB.out | apply below_alloc | apply pw_below_drewN | apply below_drew1) | exact HB.out))) : w.heap.size ≤ gb103)); have n3_ := Aside0.mk ((by rw [hg]; exact (below_size (by repeat (first | (with_reducible first | exact HB.out | apply below_alloc | apply pw_below_drewN | apply below_drew1) | exact HB.out))) : w.heap.size ≤ gb103)); clear HB; have HB := n0_; have BK103 := n1_; have GW103 := n2_; have GE103 := n3_; clear n0_ n1_ n2_ n3_; clear hb hbox hg; have hcz11_0 : w10.cell? ⟨gb103, 0, none⟩ = some (.int .i64 a0_0) := (blk_cell BK103.out 0).trans rfl; have hcz11_1 : w10.cell? ⟨gb103, 1, none⟩ = some (.int .i64 a0_1) := (blk_cell BK103.out 1).trans rfl; have hcz11_2 : w10.cell? ⟨gb103, 2, none⟩ = some (.int .i64 a0_2) := (blk_cell BK103.out 2).trans rfl; have hcz11_3 : w10.cell? ⟨gb103, 3, none⟩ = some (.int .i64 a0_3) := (blk_cell BK103.out 3).trans rfl; have hfz11_0 := blk_frozen BK103.out 0; have hfz11_1 := blk_frozen BK103.out 1; have hfz11_2 := blk_frozen BK103.out 2; have hfz11_3 := blk_frozen BK103.out 3) | ((with_reducible refine gate_callee (f := 62) rfl ?_); refine goesL_ (some 9) rfl rfl Try.func62 (by kernel_rfl) rfl #[.int .i64 a0_1, .int .i64 1, .int .i64 65536] rfl (by (try simp only [List.map_toArray, List.map_cons, List.map_nil]); first | done | rfl | (simp only [List.length_drop, List.length_take]; rfl)) ?_; (with_reducible refine (spec_l5In.calls a0_1 1 65536 false _ A3.out).mono ?_); rintro e w' ⟨rfl, ⟨nd, rfl⟩⟩; refine ⟨_, rfl, ?_⟩))
      go_ret
      exact ⟨by first | rfl | (simp [errW_none, errW_some] <;> rfl) | (simp [*, errW_none, errW_some] <;> rfl), by repeat (first | (with_reducible first | exact HB.out | apply below_alloc | apply pw_below_drewN | apply below_drew1 | refine below_set ?_ GE103.out) | exact HB.out)⟩
  · rw [if_neg c2] at H
    have c2b0 : (a0_0 == 1) = false := beq_eq_false_iff_ne.mpr c2
    have c2b1 : (a0_0 != 1) = true := bne_iff_ne.mpr c2
    by_cases c12 : a0_0 = 2
    · rw [if_pos c12] at H
      have c12b0 : (a0_0 == 2) = true := beq_iff_eq.mpr c12
      have c12b1 : (a0_0 != 2) = false := bne_eq_false_iff_eq.mpr c12
      clear c12
      by_cases c13 : a0_1 = 0
      · rw [if_pos c13] at H
        have c13b0 : (a0_1 == 0) = true := beq_iff_eq.mpr c13
        have c13b1 : (a0_1 != 0) = false := bne_eq_false_iff_eq.mpr c13
        clear c13
        by_cases c14 : a0_2 = 0
        · rw [if_pos c14] at H
          have c14b0 : (a0_2 == 0) = true := beq_iff_eq.mpr c14
          have c14b1 : (a0_2 != 0) = false := bne_eq_false_iff_eq.mpr c14
          clear c14
          obtain rfl := Option.some.inj H
          go_enter Try.func73, Try.ntmps73
          go_wp2_with (first | ((with_reducible refine gate_dst (N := 1) rfl ?_); refine box_event ?hg (N := 1) ?hd (cs := #[.int .i64 a0_0, .int .i64 a0_1, .int .i64 a0_2, .int .i64 a0_3]) (t := 83) ?hr ?_; (case hd => rfl); (case hg => rfl); (case hr => first | (go_simp; done) | (go_simp; rfl)); intro gb103 hg w15 hbox hb; have n0_ := Aside0.mk (below_step (by repeat (first | (with_reducible first | exact HB.out | apply below_alloc | apply pw_below_drewN | apply below_drew1) | exact HB.out)) hb); have n1_ := Aside0.mk (hbox); have n2_ := Aside0.mk ((by rw [hg]; exact (below_size (by repeat (first | (with_reducible first | exact HB.out | apply below_alloc | apply pw_below_drewN | apply below_drew1) | exact HB.out))) : w.heap.size ≤ gb103)); have n3_ := Aside0.mk ((by rw [hg]; exact (below_size (by repeat (first | (with_reducible first | exact HB.out | apply below_alloc | apply pw_below_drewN | apply below_drew1) | exact HB.out))) : w.heap.size ≤ gb103)); clear HB; have HB := n0_; have BK103 := n1_; have GW103 := n2_; have GE103 := n3_; clear n0_ n1_ n2_ n3_; clear hb hbox hg; have hcz16_0 : w15.cell? ⟨gb103, 0, none⟩ = some (.int .i64 a0_0) := (blk_cell BK103.out 0).trans rfl; have hcz16_1 : w15.cell? ⟨gb103, 1, none⟩ = some (.int .i64 a0_1) := (blk_cell BK103.out 1).trans rfl; have hcz16_2 : w15.cell? ⟨gb103, 2, none⟩ = some (.int .i64 a0_2) := (blk_cell BK103.out 2).trans rfl; have hcz16_3 : w15.cell? ⟨gb103, 3, none⟩ = some (.int .i64 a0_3) := (blk_cell BK103.out 3).trans rfl; have hfz16_0 := blk_frozen BK103.out 0; have hfz16_1 := blk_frozen BK103.out 1; have hfz16_2 := blk_frozen BK103.out 2; have hfz16_3 := blk_frozen BK103.out 3))
          go_ret
          exact ⟨by first | rfl | (simp [errW_none, errW_some] <;> rfl) | (simp [*, errW_none, errW_some] <;> rfl), by repeat (first | (with_reducible first | exact HB.out | apply below_alloc | apply pw_below_drewN | apply below_drew1 | refine below_set ?_ GE103.out) | exact HB.out)⟩
        · rw [if_neg c14] at H
          have c14b0 : (a0_2 == 0) = false := beq_eq_false_iff_ne.mpr c14
          have c14b1 : (a0_2 != 0) = true := bne_iff_ne.mpr c14
          obtain rfl := Option.some.inj H
          go_enter Try.func73, Try.ntmps73
          go_wp2_with (first | ((with_reducible refine gate_dst (N := 1) rfl ?_); refine box_event ?hg (N := 1) ?hd (cs := #[.int .i64 a0_0, .int .i64 a0_1, .int .i64 a0_2, .int .i64 a0_3]) (t := 83) ?hr ?_; (case hd => rfl); (case hg => rfl); (case hr => first | (go_simp; done) | (go_simp; rfl)); intro gb103 hg w17 hbox hb; have n0_ := Aside0.mk (below_step (by repeat (first | (with_reducible first | exact HB.out | apply below_alloc | apply pw_below_drewN | apply below_drew1) | exact HB.out)) hb); have n1_ := Aside0.mk (hbox); have n2_ := Aside0.mk ((by rw [hg]; exact (below_size (by repeat (first | (with_reducible first | exact HB.out | apply below_alloc | apply pw_below_drewN | apply below_drew1) | exact HB.out))) : w.heap.size ≤ gb103)); have n3_ := Aside0.mk ((by rw [hg]; exact (below_size (by repeat (first | (with_reducible first | exact HB.out | apply below_alloc | apply pw_below_drewN | apply below_drew1) | exact HB.out))) : w.heap.size ≤ gb103)); clear HB; have HB := n0_; have BK103 := n1_; have GW103 := n2_; have GE103 := n3_; clear n0_ n1_ n2_ n3_; clear hb hbox hg; have hcz18_0 : w17.cell? ⟨gb103, 0, none⟩ = some (.int .i64 a0_0) := (blk_cell BK103.out 0).trans rfl; have hcz18_1 : w17.cell? ⟨gb103, 1, none⟩ = some (.int .i64 a0_1) := (blk_cell BK103.out 1).trans rfl; have hcz18_2 : w17.cell? ⟨gb103, 2, none⟩ = some (.int .i64 a0_2) := (blk_cell BK103.out 2).trans rfl; have hcz18_3 : w17.cell? ⟨gb103, 3, none⟩ = some (.int .i64 a0_3) := (blk_cell BK103.out 3).trans rfl; have hfz18_0 := blk_frozen BK103.out 0; have hfz18_1 := blk_frozen BK103.out 1; have hfz18_2 := blk_frozen BK103.out 2; have hfz18_3 := blk_frozen BK103.out 3))
          go_ret
          exact ⟨by first | rfl | (simp [errW_none, errW_some] <;> rfl) | (simp [*, errW_none, errW_some] <;> rfl), by repeat (first | (with_reducible first | exact HB.out | apply below_alloc | apply pw_below_drewN | apply below_drew1 | refine below_set ?_ GE103.out) | exact HB.out)⟩
      · rw [if_neg c13] at H
        have c13b0 : (a0_1 == 0) = false := beq_eq_false_iff_ne.mpr c13
        have c13b1 : (a0_1 != 0) = true := bne_iff_ne.mpr c13
        obtain rfl := Option.some.inj H
        go_enter Try.func73, Try.ntmps73
        go_wp2_with (first | ((with_reducible refine gate_dst (N := 1) rfl ?_); refine box_event ?hg (N := 1) ?hd (cs := #[.int .i64 a0_0, .int .i64 a0_1, .int .i64 a0_2, .int .i64 a0_3]) (t := 83) ?hr ?_; (case hd => rfl); (case hg => rfl); (case hr => first | (go_simp; done) | (go_simp; rfl)); intro gb103 hg w19 hbox hb; have n0_ := Aside0.mk (below_step (by repeat (first | (with_reducible first | exact HB.out | apply below_alloc | apply pw_below_drewN | apply below_drew1) | exact HB.out)) hb); have n1_ := Aside0.mk (hbox); have n2_ := Aside0.mk ((by rw [hg]; exact (below_size (by repeat (first | (with_reducible first | exact HB.out | apply below_alloc | apply pw_below_drewN | apply below_drew1) | exact HB.out))) : w.heap.size ≤ gb103)); have n3_ := Aside0.mk ((by rw [hg]; exact (below_size (by repeat (first | (with_reducible first | exact HB.out | apply below_alloc | apply pw_below_drewN | apply below_drew1) | exact HB.out))) : w.heap.size ≤ gb103)); clear HB; have HB := n0_; have BK103 := n1_; have GW103 := n2_; have GE103 := n3_; clear n0_ n1_ n2_ n3_; clear hb hbox hg; have hcz20_0 : w19.cell? ⟨gb103, 0, none⟩ = some (.int .i64 a0_0) := (blk_cell BK103.out 0).trans rfl; have hcz20_1 : w19.cell? ⟨gb103, 1, none⟩ = some (.int .i64 a0_1) := (blk_cell BK103.out 1).trans rfl; have hcz20_2 : w19.cell? ⟨gb103, 2, none⟩ = some (.int .i64 a0_2) := (blk_cell BK103.out 2).trans rfl; have hcz20_3 : w19.cell? ⟨gb103, 3, none⟩ = some (.int .i64 a0_3) := (blk_cell BK103.out 3).trans rfl; have hfz20_0 := blk_frozen BK103.out 0; have hfz20_1 := blk_frozen BK103.out 1; have hfz20_2 := blk_frozen BK103.out 2; have hfz20_3 := blk_frozen BK103.out 3))
        go_ret
        exact ⟨by first | rfl | (simp [errW_none, errW_some] <;> rfl) | (simp [*, errW_none, errW_some] <;> rfl), by repeat (first | (with_reducible first | exact HB.out | apply below_alloc | apply pw_below_drewN | apply below_drew1 | refine below_set ?_ GE103.out) | exact HB.out)⟩
    · rw [if_neg c12] at H
      have c12b0 : (a0_0 == 2) = false := beq_eq_false_iff_ne.mpr c12
      have c12b1 : (a0_0 != 2) = true := bne_iff_ne.mpr c12
      have HC21 := Aside0.mk H
      clear H
      go_enter Try.func73, Try.ntmps73
      go_upto_if 35 with (first | ((with_reducible refine gate_dst (N := 1) rfl ?_); refine box_event ?hg (N := 1) ?hd (cs := #[.int .i64 a0_0, .int .i64 a0_1, .int .i64 a0_2, .int .i64 a0_3]) (t := 83) ?hr ?_; (case hd => rfl); (case hg => rfl); (case hr => first | (go_simp; done) | (go_simp; rfl)); intro gb103 hg w22 hbox hb; have n0_ := Aside0.mk (below_step (by repeat (first | (with_reducible first | exact HB.out | apply below_alloc | apply pw_below_drewN | apply below_drew1) | exact HB.out)) hb); have n1_ := Aside0.mk (hbox); have n2_ := Aside0.mk ((by rw [hg]; exact (below_size (by repeat (first | (with_reducible first | exact HB.out | apply below_alloc | apply pw_below_drewN | apply below_drew1) | exact HB.out))) : w.heap.size ≤ gb103)); have n3_ := Aside0.mk ((by rw [hg]; exact (below_size (by repeat (first | (with_reducible first | exact HB.out | apply below_alloc | apply pw_below_drewN | apply below_drew1) | exact HB.out))) : w.heap.size ≤ gb103)); clear HB; have HB := n0_; have BK103 := n1_; have GW103 := n2_; have GE103 := n3_; clear n0_ n1_ n2_ n3_; clear hb hbox hg; have hcz23_0 : w22.cell? ⟨gb103, 0, none⟩ = some (.int .i64 a0_0) := (blk_cell BK103.out 0).trans rfl; have hcz23_1 : w22.cell? ⟨gb103, 1, none⟩ = some (.int .i64 a0_1) := (blk_cell BK103.out 1).trans rfl; have hcz23_2 : w22.cell? ⟨gb103, 2, none⟩ = some (.int .i64 a0_2) := (blk_cell BK103.out 2).trans rfl; have hcz23_3 : w22.cell? ⟨gb103, 3, none⟩ = some (.int .i64 a0_3) := (blk_cell BK103.out 3).trans rfl; have hfz23_0 := blk_frozen BK103.out 0; have hfz23_1 := blk_frozen BK103.out 1; have hfz23_2 := blk_frozen BK103.out 2; have hfz23_3 := blk_frozen BK103.out 3))
      (try simp only [Act.put, List.setIfInBounds_toArray, List.set_cons_zero, List.set_cons_succ])
      go_cut [35] (fun v35 wc => ∃ (kq : Nat) (x35_20 : Bool), v35 = .bool x35_20 ∧ Aside0 (spec_l13Instr.j0 kq a0_0 x35_20 a0_0 a0_1 a0_2 a0_3 = some r) ∧ Aside0 (kq ≤ k) ∧ Aside0 (wc.heap[gb103]? = some (.cells #[.int .i64 a0_0, .int .i64 a0_1, .int .i64 a0_2, .int .i64 a0_3] 83 (0, 0))) ∧ Aside0 (Below w.heap.size w wc))
      case first =>
        have H := HC21.out
        clear HC21
        by_cases c24 : a0_0 = 3
        · rw [if_pos c24] at H
          have c24b0 : (a0_0 == 3) = true := beq_iff_eq.mpr c24
          have c24b1 : (a0_0 != 3) = false := bne_eq_false_iff_eq.mpr c24
          clear c24
          (first | rw [c24b0] | (simp only [i64_w, i32_w]; rw [c24b0]) | skip)
          have H' := Aside0.mk H
          clear H
          go_wp2
          go_meet
          case rel => exact ⟨_, ((a0_0 == 3)), (by first | rfl | (simp; done) | (simp [*]; done)), H', ⟨by first | omega | exact Nat.le_refl _⟩, ⟨by (with_reducible repeat (first | refine blk_drewN ?_ _ | refine blk_drew ?_ | refine blk_alloc ?_ _)); exact BK103.out⟩, ⟨by repeat (first | (with_reducible first | exact HB.out | apply below_alloc | apply pw_below_drewN | apply below_drew1 | refine below_set ?_ GE103.out) | exact HB.out)⟩⟩
        · rw [if_neg c24] at H
          have c24b0 : (a0_0 == 3) = false := beq_eq_false_iff_ne.mpr c24
          have c24b1 : (a0_0 != 3) = true := bne_iff_ne.mpr c24
          (first | rw [c24b0] | (simp only [i64_w, i32_w]; rw [c24b0]) | skip)
          have H' := Aside0.mk H
          clear H
          go_wp2
          go_meet
          case rel => exact ⟨_, ((a0_0 == 4)), (by first | rfl | (simp; done) | (simp [*]; done)), H', ⟨by first | omega | exact Nat.le_refl _⟩, ⟨by (with_reducible repeat (first | refine blk_drewN ?_ _ | refine blk_drew ?_ | refine blk_alloc ?_ _)); exact BK103.out⟩, ⟨by repeat (first | (with_reducible first | exact HB.out | apply below_alloc | apply pw_below_drewN | apply below_drew1 | refine below_set ?_ GE103.out) | exact HB.out)⟩⟩
      case rest =>
        clear HC21
        try clear c1
        try clear c2
        try clear c2b0
        try clear c2b1
        try clear p2
        try clear c4
        try clear c5
        try clear c5b0
        try clear c5b1
        try clear c6
        try clear c7
        try clear c12
        try clear c12b0
        try clear c12b1
        try clear c13
        try clear c13b0
        try clear c13b1
        try clear c14
        try clear c14b0
        try clear c14b1
        try clear c24
        try clear c24b0
        try clear c24b1
        try clear hcz11_0
        try clear hcz11_1
        try clear hcz11_2
        try clear hcz11_3
        try clear hcz16_0
        try clear hcz16_1
        try clear hcz16_2
        try clear hcz16_3
        try clear hcz18_0
        try clear hcz18_1
        try clear hcz18_2
        try clear hcz18_3
        try clear hcz20_0
        try clear hcz20_1
        try clear hcz20_2
        try clear hcz20_3
        try clear hcz23_0
        try clear hcz23_1
        try clear hcz23_2
        try clear hcz23_3
        try clear hcz7_0
        try clear hcz7_1
        try clear hcz7_2
        try clear hcz7_3
        try clear hcz9_0
        try clear hcz9_1
        try clear hcz9_2
        try clear hcz9_3
        try clear hfz11_0
        try clear hfz11_1
        try clear hfz11_2
        try clear hfz11_3
        try clear hfz16_0
        try clear hfz16_1
        try clear hfz16_2
        try clear hfz16_3
        try clear hfz18_0
        try clear hfz18_1
        try clear hfz18_2
        try clear hfz18_3
        try clear hfz20_0
        try clear hfz20_1
        try clear hfz20_2
        try clear hfz20_3
        try clear hfz23_0
        try clear hfz23_1
        try clear hfz23_2
        try clear hfz23_3
        try clear hfz7_0
        try clear hfz7_1
        try clear hfz7_2
        try clear hfz7_3
        try clear hfz9_0
        try clear hfz9_1
        try clear hfz9_2
        try clear hfz9_3
        obtain ⟨kq, x35_20, rfl, HA, HJ20, BK103, HB⟩ := hcut
        cases kq with
        | zero => exact absurd HA.out (by simp [spec_l13Instr.j0])
        | succ kj20 =>
          have H := HA.out
          clear HA
          simp only [spec_l13Instr.j0] at H
          by_cases c25 : x35_20 = true
          · subst c25
            have H1 : ((spec_l5In.f a0_1 0 31).bind fun t105 => (if t105 = true then ((spec_l13Num.f a0_2).bind fun t106 => (if t106 = true then (some (a0_3 == 0)) else (some false))) else (some false))) = some r := by rw [if_pos rfl] at H; exact H
            clear H
            have H := H1
            clear H1
            replace H := Option.bind_eq_some_iff.mp H
            obtain ⟨t105, A260, H⟩ := H
            replace H : (if t105 = true then ((spec_l13Num.f a0_2).bind fun t106 => (if t106 = true then (some (a0_3 == 0)) else (some false))) else (some false)) = some r := H
            have A26 := Aside0.mk A260
            clear A260
            by_cases c27 : t105 = true
            · subst c27
              have H1 : ((spec_l13Num.f a0_2).bind fun t106 => (if t106 = true then (some (a0_3 == 0)) else (some false))) = some r := by rw [if_pos rfl] at H; exact H
              clear H
              have H := H1
              clear H1
              replace H := Option.bind_eq_some_iff.mp H
              obtain ⟨t106, A280, H⟩ := H
              replace H : (if t106 = true then (some (a0_3 == 0)) else (some false)) = some r := H
              have A28 := Aside0.mk A280
              clear A280
              by_cases c29 : t106 = true
              · subst c29
                have H1 : (some (a0_3 == 0)) = some r := by rw [if_pos rfl] at H; exact H
                clear H
                have H := H1
                clear H1
                obtain rfl := Option.some.inj H
                have hcz30_0 : wc.cell? ⟨gb103, 0, none⟩ = some (.int .i64 a0_0) := (blk_cell BK103.out 0).trans rfl
                have hcz30_1 : wc.cell? ⟨gb103, 1, none⟩ = some (.int .i64 a0_1) := (blk_cell BK103.out 1).trans rfl
                have hcz30_2 : wc.cell? ⟨gb103, 2, none⟩ = some (.int .i64 a0_2) := (blk_cell BK103.out 2).trans rfl
                have hcz30_3 : wc.cell? ⟨gb103, 3, none⟩ = some (.int .i64 a0_3) := (blk_cell BK103.out 3).trans rfl
                have hfz30_0 := blk_frozen BK103.out 0
                have hfz30_1 := blk_frozen BK103.out 1
                have hfz30_2 := blk_frozen BK103.out 2
                have hfz30_3 := blk_frozen BK103.out 3
                go_wp2_with (first | ((with_reducible refine gate_callee (f := 62) rfl ?_); refine goesL_ (some 40) rfl rfl Try.func62 (by kernel_rfl) rfl #[.int .i64 a0_1, .int .i64 0, .int .i64 31] rfl (by (try simp only [List.map_toArray, List.map_cons, List.map_nil]); first | done | rfl | (simp only [List.length_drop, List.length_take]; rfl)) ?_; (with_reducible refine (spec_l5In.calls a0_1 0 31 true _ A26.out).mono ?_); rintro e w' ⟨rfl, ⟨nd, rfl⟩⟩; refine ⟨_, rfl, ?_⟩) | (go_at_call 93; (with_reducible refine (spec_l13Num.calls a0_2 true _ A28.out).mono ?_); rintro e w' ⟨rfl, ⟨nd, rfl⟩⟩))
                go_ret
                exact ⟨by first | rfl | (simp [errW_none, errW_some] <;> rfl) | (simp [*, errW_none, errW_some] <;> rfl), by repeat (first | (with_reducible first | exact HB.out | apply below_alloc | apply pw_below_drewN | apply below_drew1 | refine below_set ?_ GE103.out) | exact HB.out)⟩
              · replace c29 := Bool.eq_false_iff.mpr c29
                subst c29
                have H1 : (some false) = some r := by rw [if_neg (show ¬ (false = true) by decide)] at H; exact H
                clear H
                have H := H1
                clear H1
                obtain rfl := Option.some.inj H
                have hcz31_0 : wc.cell? ⟨gb103, 0, none⟩ = some (.int .i64 a0_0) := (blk_cell BK103.out 0).trans rfl
                have hcz31_1 : wc.cell? ⟨gb103, 1, none⟩ = some (.int .i64 a0_1) := (blk_cell BK103.out 1).trans rfl
                have hcz31_2 : wc.cell? ⟨gb103, 2, none⟩ = some (.int .i64 a0_2) := (blk_cell BK103.out 2).trans rfl
                have hcz31_3 : wc.cell? ⟨gb103, 3, none⟩ = some (.int .i64 a0_3) := (blk_cell BK103.out 3).trans rfl
                have hfz31_0 := blk_frozen BK103.out 0
                have hfz31_1 := blk_frozen BK103.out 1
                have hfz31_2 := blk_frozen BK103.out 2
                have hfz31_3 := blk_frozen BK103.out 3
                go_wp2_with (first | ((with_reducible refine gate_callee (f := 62) rfl ?_); refine goesL_ (some 40) rfl rfl Try.func62 (by kernel_rfl) rfl #[.int .i64 a0_1, .int .i64 0, .int .i64 31] rfl (by (try simp only [List.map_toArray, List.map_cons, List.map_nil]); first | done | rfl | (simp only [List.length_drop, List.length_take]; rfl)) ?_; (with_reducible refine (spec_l5In.calls a0_1 0 31 true _ A26.out).mono ?_); rintro e w' ⟨rfl, ⟨nd, rfl⟩⟩; refine ⟨_, rfl, ?_⟩) | (go_at_call 93; (with_reducible refine (spec_l13Num.calls a0_2 false _ A28.out).mono ?_); rintro e w' ⟨rfl, ⟨nd, rfl⟩⟩))
                go_ret
                exact ⟨by first | rfl | (simp [errW_none, errW_some] <;> rfl) | (simp [*, errW_none, errW_some] <;> rfl), by repeat (first | (with_reducible first | exact HB.out | apply below_alloc | apply pw_below_drewN | apply below_drew1 | refine below_set ?_ GE103.out) | exact HB.out)⟩
            · replace c27 := Bool.eq_false_iff.mpr c27
              subst c27
              have H1 : (some false) = some r := by rw [if_neg (show ¬ (false = true) by decide)] at H; exact H
              clear H
              have H := H1
              clear H1
              obtain rfl := Option.some.inj H
              have hcz32_0 : wc.cell? ⟨gb103, 0, none⟩ = some (.int .i64 a0_0) := (blk_cell BK103.out 0).trans rfl
              have hcz32_1 : wc.cell? ⟨gb103, 1, none⟩ = some (.int .i64 a0_1) := (blk_cell BK103.out 1).trans rfl
              have hcz32_2 : wc.cell? ⟨gb103, 2, none⟩ = some (.int .i64 a0_2) := (blk_cell BK103.out 2).trans rfl
              have hcz32_3 : wc.cell? ⟨gb103, 3, none⟩ = some (.int .i64 a0_3) := (blk_cell BK103.out 3).trans rfl
              have hfz32_0 := blk_frozen BK103.out 0
              have hfz32_1 := blk_frozen BK103.out 1
              have hfz32_2 := blk_frozen BK103.out 2
              have hfz32_3 := blk_frozen BK103.out 3
              go_wp2_with (first | ((with_reducible refine gate_callee (f := 62) rfl ?_); refine goesL_ (some 40) rfl rfl Try.func62 (by kernel_rfl) rfl #[.int .i64 a0_1, .int .i64 0, .int .i64 31] rfl (by (try simp only [List.map_toArray, List.map_cons, List.map_nil]); first | done | rfl | (simp only [List.length_drop, List.length_take]; rfl)) ?_; (with_reducible refine (spec_l5In.calls a0_1 0 31 false _ A26.out).mono ?_); rintro e w' ⟨rfl, ⟨nd, rfl⟩⟩; refine ⟨_, rfl, ?_⟩))
              go_ret
              exact ⟨by first | rfl | (simp [errW_none, errW_some] <;> rfl) | (simp [*, errW_none, errW_some] <;> rfl), by repeat (first | (with_reducible first | exact HB.out | apply below_alloc | apply pw_below_drewN | apply below_drew1 | refine below_set ?_ GE103.out) | exact HB.out)⟩
          · replace c25 := Bool.eq_false_iff.mpr c25
            subst c25
            have H1 : (if a0_0 = 5 then ((spec_l5In.f a0_1 1 8).bind fun t107 => (if t107 = true then (if a0_2 = 0 then (some (a0_3 == 0)) else (some false)) else (some false))) else (if a0_0 = 6 then (spec_l13Instr.j1 kj20 a0_0 (a0_0 == 6) a0_0 a0_1 a0_2 a0_3) else (if a0_0 = 7 then (spec_l13Instr.j1 kj20 a0_0 (a0_0 == 7) a0_0 a0_1 a0_2 a0_3) else (spec_l13Instr.j1 kj20 a0_0 (a0_0 == 8) a0_0 a0_1 a0_2 a0_3)))) = some r := by rw [if_neg (show ¬ (false = true) by decide)] at H; exact H
            clear H
            have H := H1
            clear H1
            by_cases c33 : a0_0 = 5
            · rw [if_pos c33] at H
              have c33b0 : (a0_0 == 5) = true := beq_iff_eq.mpr c33
              have c33b1 : (a0_0 != 5) = false := bne_eq_false_iff_eq.mpr c33
              clear c33
              replace H := Option.bind_eq_some_iff.mp H
              obtain ⟨t107, A340, H⟩ := H
              replace H : (if t107 = true then (if a0_2 = 0 then (some (a0_3 == 0)) else (some false)) else (some false)) = some r := H
              have A34 := Aside0.mk A340
              clear A340
              by_cases c35 : t107 = true
              · subst c35
                have H1 : (if a0_2 = 0 then (some (a0_3 == 0)) else (some false)) = some r := by rw [if_pos rfl] at H; exact H
                clear H
                have H := H1
                clear H1
                by_cases c36 : a0_2 = 0
                · rw [if_pos c36] at H
                  have c36b0 : (a0_2 == 0) = true := beq_iff_eq.mpr c36
                  have c36b1 : (a0_2 != 0) = false := bne_eq_false_iff_eq.mpr c36
                  clear c36
                  obtain rfl := Option.some.inj H
                  have hcz37_0 : wc.cell? ⟨gb103, 0, none⟩ = some (.int .i64 a0_0) := (blk_cell BK103.out 0).trans rfl
                  have hcz37_1 : wc.cell? ⟨gb103, 1, none⟩ = some (.int .i64 a0_1) := (blk_cell BK103.out 1).trans rfl
                  have hcz37_2 : wc.cell? ⟨gb103, 2, none⟩ = some (.int .i64 a0_2) := (blk_cell BK103.out 2).trans rfl
                  have hcz37_3 : wc.cell? ⟨gb103, 3, none⟩ = some (.int .i64 a0_3) := (blk_cell BK103.out 3).trans rfl
                  have hfz37_0 := blk_frozen BK103.out 0
                  have hfz37_1 := blk_frozen BK103.out 1
                  have hfz37_2 := blk_frozen BK103.out 2
                  have hfz37_3 := blk_frozen BK103.out 3
                  go_wp2_with (first | ((with_reducible refine gate_callee (f := 62) rfl ?_); refine goesL_ (some 55) rfl rfl Try.func62 (by kernel_rfl) rfl #[.int .i64 a0_1, .int .i64 1, .int .i64 8] rfl (by (try simp only [List.map_toArray, List.map_cons, List.map_nil]); first | done | rfl | (simp only [List.length_drop, List.length_take]; rfl)) ?_; (with_reducible refine (spec_l5In.calls a0_1 1 8 true _ A34.out).mono ?_); rintro e w' ⟨rfl, ⟨nd, rfl⟩⟩; refine ⟨_, rfl, ?_⟩))
                  go_ret
                  exact ⟨by first | rfl | (simp [errW_none, errW_some] <;> rfl) | (simp [*, errW_none, errW_some] <;> rfl), by repeat (first | (with_reducible first | exact HB.out | apply below_alloc | apply pw_below_drewN | apply below_drew1 | refine below_set ?_ GE103.out) | exact HB.out)⟩
                · rw [if_neg c36] at H
                  have c36b0 : (a0_2 == 0) = false := beq_eq_false_iff_ne.mpr c36
                  have c36b1 : (a0_2 != 0) = true := bne_iff_ne.mpr c36
                  obtain rfl := Option.some.inj H
                  have hcz38_0 : wc.cell? ⟨gb103, 0, none⟩ = some (.int .i64 a0_0) := (blk_cell BK103.out 0).trans rfl
                  have hcz38_1 : wc.cell? ⟨gb103, 1, none⟩ = some (.int .i64 a0_1) := (blk_cell BK103.out 1).trans rfl
                  have hcz38_2 : wc.cell? ⟨gb103, 2, none⟩ = some (.int .i64 a0_2) := (blk_cell BK103.out 2).trans rfl
                  have hcz38_3 : wc.cell? ⟨gb103, 3, none⟩ = some (.int .i64 a0_3) := (blk_cell BK103.out 3).trans rfl
                  have hfz38_0 := blk_frozen BK103.out 0
                  have hfz38_1 := blk_frozen BK103.out 1
                  have hfz38_2 := blk_frozen BK103.out 2
                  have hfz38_3 := blk_frozen BK103.out 3
                  go_wp2_with (first | ((with_reducible refine gate_callee (f := 62) rfl ?_); refine goesL_ (some 55) rfl rfl Try.func62 (by kernel_rfl) rfl #[.int .i64 a0_1, .int .i64 1, .int .i64 8] rfl (by (try simp only [List.map_toArray, List.map_cons, List.map_nil]); first | done | rfl | (simp only [List.length_drop, List.length_take]; rfl)) ?_; (with_reducible refine (spec_l5In.calls a0_1 1 8 true _ A34.out).mono ?_); rintro e w' ⟨rfl, ⟨nd, rfl⟩⟩; refine ⟨_, rfl, ?_⟩))
                  go_ret
                  exact ⟨by first | rfl | (simp [errW_none, errW_some] <;> rfl) | (simp [*, errW_none, errW_some] <;> rfl), by repeat (first | (with_reducible first | exact HB.out | apply below_alloc | apply pw_below_drewN | apply below_drew1 | refine below_set ?_ GE103.out) | exact HB.out)⟩
              · replace c35 := Bool.eq_false_iff.mpr c35
                subst c35
                have H1 : (some false) = some r := by rw [if_neg (show ¬ (false = true) by decide)] at H; exact H
                clear H
                have H := H1
                clear H1
                obtain rfl := Option.some.inj H
                have hcz39_0 : wc.cell? ⟨gb103, 0, none⟩ = some (.int .i64 a0_0) := (blk_cell BK103.out 0).trans rfl
                have hcz39_1 : wc.cell? ⟨gb103, 1, none⟩ = some (.int .i64 a0_1) := (blk_cell BK103.out 1).trans rfl
                have hcz39_2 : wc.cell? ⟨gb103, 2, none⟩ = some (.int .i64 a0_2) := (blk_cell BK103.out 2).trans rfl
                have hcz39_3 : wc.cell? ⟨gb103, 3, none⟩ = some (.int .i64 a0_3) := (blk_cell BK103.out 3).trans rfl
                have hfz39_0 := blk_frozen BK103.out 0
                have hfz39_1 := blk_frozen BK103.out 1
                have hfz39_2 := blk_frozen BK103.out 2
                have hfz39_3 := blk_frozen BK103.out 3
                go_wp2_with (first | ((with_reducible refine gate_callee (f := 62) rfl ?_); refine goesL_ (some 55) rfl rfl Try.func62 (by kernel_rfl) rfl #[.int .i64 a0_1, .int .i64 1, .int .i64 8] rfl (by (try simp only [List.map_toArray, List.map_cons, List.map_nil]); first | done | rfl | (simp only [List.length_drop, List.length_take]; rfl)) ?_; (with_reducible refine (spec_l5In.calls a0_1 1 8 false _ A34.out).mono ?_); rintro e w' ⟨rfl, ⟨nd, rfl⟩⟩; refine ⟨_, rfl, ?_⟩))
                go_ret
                exact ⟨by first | rfl | (simp [errW_none, errW_some] <;> rfl) | (simp [*, errW_none, errW_some] <;> rfl), by repeat (first | (with_reducible first | exact HB.out | apply below_alloc | apply pw_below_drewN | apply below_drew1 | refine below_set ?_ GE103.out) | exact HB.out)⟩
            · rw [if_neg c33] at H
              have c33b0 : (a0_0 == 5) = false := beq_eq_false_iff_ne.mpr c33
              have c33b1 : (a0_0 != 5) = true := bne_iff_ne.mpr c33
              have HC40 := Aside0.mk H
              clear H
              go_upto_if 66 with (fail)
              go_cut [66] (fun v66 wc => ∃ (kq : Nat) (x66_39 : Bool), v66 = .bool x66_39 ∧ Aside0 (spec_l13Instr.j1 kq a0_0 x66_39 a0_0 a0_1 a0_2 a0_3 = some r) ∧ Aside0 (kq ≤ kj20) ∧ Aside0 (wc.heap[gb103]? = some (.cells #[.int .i64 a0_0, .int .i64 a0_1, .int .i64 a0_2, .int .i64 a0_3] 83 (0, 0))) ∧ Aside0 (Below w.heap.size w wc))
              case first =>
                have H := HC40.out
                clear HC40
                by_cases c41 : a0_0 = 6
                · rw [if_pos c41] at H
                  have c41b0 : (a0_0 == 6) = true := beq_iff_eq.mpr c41
                  have c41b1 : (a0_0 != 6) = false := bne_eq_false_iff_eq.mpr c41
                  clear c41
                  (first | rw [c41b0] | (simp only [i64_w, i32_w]; rw [c41b0]) | skip)
                  have H' := Aside0.mk H
                  clear H
                  go_wp2
                  go_meet
                  case rel => exact ⟨_, ((a0_0 == 6)), (by first | rfl | (simp; done) | (simp [*]; done)), H', ⟨by have := HJ20.out; first | omega | exact Nat.le_refl _⟩, ⟨by (with_reducible repeat (first | refine blk_drewN ?_ _ | refine blk_drew ?_ | refine blk_alloc ?_ _)); exact BK103.out⟩, ⟨by repeat (first | (with_reducible first | exact HB.out | apply below_alloc | apply pw_below_drewN | apply below_drew1 | refine below_set ?_ GE103.out) | exact HB.out)⟩⟩
                · rw [if_neg c41] at H
                  have c41b0 : (a0_0 == 6) = false := beq_eq_false_iff_ne.mpr c41
                  have c41b1 : (a0_0 != 6) = true := bne_iff_ne.mpr c41
                  (first | rw [c41b0] | (simp only [i64_w, i32_w]; rw [c41b0]) | skip)
                  by_cases c42 : a0_0 = 7
                  · rw [if_pos c42] at H
                    have c42b0 : (a0_0 == 7) = true := beq_iff_eq.mpr c42
                    have c42b1 : (a0_0 != 7) = false := bne_eq_false_iff_eq.mpr c42
                    clear c42
                    have H' := Aside0.mk H
                    clear H
                    go_wp2
                    go_meet
                    case rel => exact ⟨_, ((a0_0 == 7)), (by first | rfl | (simp; done) | (simp [*]; done)), H', ⟨by have := HJ20.out; first | omega | exact Nat.le_refl _⟩, ⟨by (with_reducible repeat (first | refine blk_drewN ?_ _ | refine blk_drew ?_ | refine blk_alloc ?_ _)); exact BK103.out⟩, ⟨by repeat (first | (with_reducible first | exact HB.out | apply below_alloc | apply pw_below_drewN | apply below_drew1 | refine below_set ?_ GE103.out) | exact HB.out)⟩⟩
                  · rw [if_neg c42] at H
                    have c42b0 : (a0_0 == 7) = false := beq_eq_false_iff_ne.mpr c42
                    have c42b1 : (a0_0 != 7) = true := bne_iff_ne.mpr c42
                    have H' := Aside0.mk H
                    clear H
                    go_wp2
                    go_meet
                    case rel => exact ⟨_, ((a0_0 == 8)), (by first | rfl | (simp; done) | (simp [*]; done)), H', ⟨by have := HJ20.out; first | omega | exact Nat.le_refl _⟩, ⟨by (with_reducible repeat (first | refine blk_drewN ?_ _ | refine blk_drew ?_ | refine blk_alloc ?_ _)); exact BK103.out⟩, ⟨by repeat (first | (with_reducible first | exact HB.out | apply below_alloc | apply pw_below_drewN | apply below_drew1 | refine below_set ?_ GE103.out) | exact HB.out)⟩⟩
              case rest =>
                clear HC40
                try clear c1
                try clear c2
                try clear c2b0
                try clear c2b1
                try clear p2
                try clear c3
                try clear c4
                try clear c5
                try clear c5b0
                try clear c5b1
                try clear c6
                try clear c7
                try clear c12
                try clear c12b0
                try clear c12b1
                try clear c13
                try clear c13b0
                try clear c13b1
                try clear c14
                try clear c14b0
                try clear c14b1
                try clear c24
                try clear c24b0
                try clear c24b1
                try clear c25
                try clear c27
                try clear c29
                try clear c33
                try clear c33b0
                try clear c33b1
                try clear c35
                try clear c36
                try clear c36b0
                try clear c36b1
                try clear c41
                try clear c41b0
                try clear c41b1
                try clear c42
                try clear c42b0
                try clear c42b1
                try clear hcz11_0
                try clear hcz11_1
                try clear hcz11_2
                try clear hcz11_3
                try clear hcz16_0
                try clear hcz16_1
                try clear hcz16_2
                try clear hcz16_3
                try clear hcz18_0
                try clear hcz18_1
                try clear hcz18_2
                try clear hcz18_3
                try clear hcz20_0
                try clear hcz20_1
                try clear hcz20_2
                try clear hcz20_3
                try clear hcz23_0
                try clear hcz23_1
                try clear hcz23_2
                try clear hcz23_3
                try clear hcz30_0
                try clear hcz30_1
                try clear hcz30_2
                try clear hcz30_3
                try clear hcz31_0
                try clear hcz31_1
                try clear hcz31_2
                try clear hcz31_3
                try clear hcz32_0
                try clear hcz32_1
                try clear hcz32_2
                try clear hcz32_3
                try clear hcz37_0
                try clear hcz37_1
                try clear hcz37_2
                try clear hcz37_3
                try clear hcz38_0
                try clear hcz38_1
                try clear hcz38_2
                try clear hcz38_3
                try clear hcz39_0
                try clear hcz39_1
                try clear hcz39_2
                try clear hcz39_3
                try clear hcz7_0
                try clear hcz7_1
                try clear hcz7_2
                try clear hcz7_3
                try clear hcz9_0
                try clear hcz9_1
                try clear hcz9_2
                try clear hcz9_3
                try clear hfz11_0
                try clear hfz11_1
                try clear hfz11_2
                try clear hfz11_3
                try clear hfz16_0
                try clear hfz16_1
                try clear hfz16_2
                try clear hfz16_3
                try clear hfz18_0
                try clear hfz18_1
                try clear hfz18_2
                try clear hfz18_3
                try clear hfz20_0
                try clear hfz20_1
                try clear hfz20_2
                try clear hfz20_3
                try clear hfz23_0
                try clear hfz23_1
                try clear hfz23_2
                try clear hfz23_3
                try clear hfz30_0
                try clear hfz30_1
                try clear hfz30_2
                try clear hfz30_3
                try clear hfz31_0
                try clear hfz31_1
                try clear hfz31_2
                try clear hfz31_3
                try clear hfz32_0
                try clear hfz32_1
                try clear hfz32_2
                try clear hfz32_3
                try clear hfz37_0
                try clear hfz37_1
                try clear hfz37_2
                try clear hfz37_3
                try clear hfz38_0
                try clear hfz38_1
                try clear hfz38_2
                try clear hfz38_3
                try clear hfz39_0
                try clear hfz39_1
                try clear hfz39_2
                try clear hfz39_3
                try clear hfz7_0
                try clear hfz7_1
                try clear hfz7_2
                try clear hfz7_3
                try clear hfz9_0
                try clear hfz9_1
                try clear hfz9_2
                try clear hfz9_3
                try clear p2
                obtain ⟨kq, x66_39, rfl, HA, HJ39, BK103, HB⟩ := hcut
                cases kq with
                | zero => exact absurd HA.out (by simp [spec_l13Instr.j1])
                | succ kj39 =>
                  have H := HA.out
                  clear HA
                  simp only [spec_l13Instr.j1] at H
                  by_cases c43 : x66_39 = true
                  · subst c43
                    have H1 : ((spec_l13Reg.f a0_1).bind fun t108 => (if t108 = true then ((spec_l5In.f a0_2 0 31).bind fun t109 => (if t109 = true then ((spec_l13Num.f a0_3).bind fun t110 => (some t110)) else (some false))) else (some false))) = some r := by rw [if_pos rfl] at H; exact H
                    clear H
                    have H := H1
                    clear H1
                    replace H := Option.bind_eq_some_iff.mp H
                    obtain ⟨t108, A440, H⟩ := H
                    replace H : (if t108 = true then ((spec_l5In.f a0_2 0 31).bind fun t109 => (if t109 = true then ((spec_l13Num.f a0_3).bind fun t110 => (some t110)) else (some false))) else (some false)) = some r := H
                    have A44 := Aside0.mk A440
                    clear A440
                    by_cases c45 : t108 = true
                    · subst c45
                      have H1 : ((spec_l5In.f a0_2 0 31).bind fun t109 => (if t109 = true then ((spec_l13Num.f a0_3).bind fun t110 => (some t110)) else (some false))) = some r := by rw [if_pos rfl] at H; exact H
                      clear H
                      have H := H1
                      clear H1
                      replace H := Option.bind_eq_some_iff.mp H
                      obtain ⟨t109, A460, H⟩ := H
                      replace H : (if t109 = true then ((spec_l13Num.f a0_3).bind fun t110 => (some t110)) else (some false)) = some r := H
                      have A46 := Aside0.mk A460
                      clear A460
                      by_cases c47 : t109 = true
                      · subst c47
                        have H1 : ((spec_l13Num.f a0_3).bind fun t110 => (some t110)) = some r := by rw [if_pos rfl] at H; exact H
                        clear H
                        have H := H1
                        clear H1
                        replace H := Option.bind_eq_some_iff.mp H
                        obtain ⟨t110, A480, H⟩ := H
                        replace H : (some t110) = some r := H
                        have A48 := Aside0.mk A480
                        clear A480
                        obtain rfl := Option.some.inj H
                        have hcz49_0 : wc.cell? ⟨gb103, 0, none⟩ = some (.int .i64 a0_0) := (blk_cell BK103.out 0).trans rfl
                        have hcz49_1 : wc.cell? ⟨gb103, 1, none⟩ = some (.int .i64 a0_1) := (blk_cell BK103.out 1).trans rfl
                        have hcz49_2 : wc.cell? ⟨gb103, 2, none⟩ = some (.int .i64 a0_2) := (blk_cell BK103.out 2).trans rfl
                        have hcz49_3 : wc.cell? ⟨gb103, 3, none⟩ = some (.int .i64 a0_3) := (blk_cell BK103.out 3).trans rfl
                        have hfz49_0 := blk_frozen BK103.out 0
                        have hfz49_1 := blk_frozen BK103.out 1
                        have hfz49_2 := blk_frozen BK103.out 2
                        have hfz49_3 := blk_frozen BK103.out 3
                        go_wp2_with (first | ((with_reducible refine gate_callee (f := 94) rfl ?_); refine goesL_ (some 72) rfl rfl Try.func94 (by kernel_rfl) rfl #[.int .i64 a0_1] rfl (by (try simp only [List.map_toArray, List.map_cons, List.map_nil]); first | done | rfl | (simp only [List.length_drop, List.length_take]; rfl)) ?_; (with_reducible refine (spec_l13Reg.calls a0_1 true _ A44.out).mono ?_); rintro e w' ⟨rfl, ⟨nd, rfl⟩⟩; refine ⟨_, rfl, ?_⟩) | (go_at_call 62; (with_reducible refine (spec_l5In.calls a0_2 0 31 true _ A46.out).mono ?_); rintro e w' ⟨rfl, ⟨nd, rfl⟩⟩) | (go_at_call 93; (with_reducible refine (spec_l13Num.calls a0_3 t110 _ A48.out).mono ?_); rintro e w' ⟨rfl, ⟨nd, rfl⟩⟩))
                        go_ret
                        exact ⟨by first | rfl | (simp [errW_none, errW_some] <;> rfl) | (simp [*, errW_none, errW_some] <;> rfl), by repeat (first | (with_reducible first | exact HB.out | apply below_alloc | apply pw_below_drewN | apply below_drew1 | refine below_set ?_ GE103.out) | exact HB.out)⟩
                      · replace c47 := Bool.eq_false_iff.mpr c47
                        subst c47
                        have H1 : (some false) = some r := by rw [if_neg (show ¬ (false = true) by decide)] at H; exact H
                        clear H
                        have H := H1
                        clear H1
                        obtain rfl := Option.some.inj H
                        have hcz50_0 : wc.cell? ⟨gb103, 0, none⟩ = some (.int .i64 a0_0) := (blk_cell BK103.out 0).trans rfl
                        have hcz50_1 : wc.cell? ⟨gb103, 1, none⟩ = some (.int .i64 a0_1) := (blk_cell BK103.out 1).trans rfl
                        have hcz50_2 : wc.cell? ⟨gb103, 2, none⟩ = some (.int .i64 a0_2) := (blk_cell BK103.out 2).trans rfl
                        have hcz50_3 : wc.cell? ⟨gb103, 3, none⟩ = some (.int .i64 a0_3) := (blk_cell BK103.out 3).trans rfl
                        have hfz50_0 := blk_frozen BK103.out 0
                        have hfz50_1 := blk_frozen BK103.out 1
                        have hfz50_2 := blk_frozen BK103.out 2
                        have hfz50_3 := blk_frozen BK103.out 3
                        go_wp2_with (first | ((with_reducible refine gate_callee (f := 94) rfl ?_); refine goesL_ (some 72) rfl rfl Try.func94 (by kernel_rfl) rfl #[.int .i64 a0_1] rfl (by (try simp only [List.map_toArray, List.map_cons, List.map_nil]); first | done | rfl | (simp only [List.length_drop, List.length_take]; rfl)) ?_; (with_reducible refine (spec_l13Reg.calls a0_1 true _ A44.out).mono ?_); rintro e w' ⟨rfl, ⟨nd, rfl⟩⟩; refine ⟨_, rfl, ?_⟩) | (go_at_call 62; (with_reducible refine (spec_l5In.calls a0_2 0 31 false _ A46.out).mono ?_); rintro e w' ⟨rfl, ⟨nd, rfl⟩⟩))
                        go_ret
                        exact ⟨by first | rfl | (simp [errW_none, errW_some] <;> rfl) | (simp [*, errW_none, errW_some] <;> rfl), by repeat (first | (with_reducible first | exact HB.out | apply below_alloc | apply pw_below_drewN | apply below_drew1 | refine below_set ?_ GE103.out) | exact HB.out)⟩
                    · replace c45 := Bool.eq_false_iff.mpr c45
                      subst c45
                      have H1 : (some false) = some r := by rw [if_neg (show ¬ (false = true) by decide)] at H; exact H
                      clear H
                      have H := H1
                      clear H1
                      obtain rfl := Option.some.inj H
                      have hcz51_0 : wc.cell? ⟨gb103, 0, none⟩ = some (.int .i64 a0_0) := (blk_cell BK103.out 0).trans rfl
                      have hcz51_1 : wc.cell? ⟨gb103, 1, none⟩ = some (.int .i64 a0_1) := (blk_cell BK103.out 1).trans rfl
                      have hcz51_2 : wc.cell? ⟨gb103, 2, none⟩ = some (.int .i64 a0_2) := (blk_cell BK103.out 2).trans rfl
                      have hcz51_3 : wc.cell? ⟨gb103, 3, none⟩ = some (.int .i64 a0_3) := (blk_cell BK103.out 3).trans rfl
                      have hfz51_0 := blk_frozen BK103.out 0
                      have hfz51_1 := blk_frozen BK103.out 1
                      have hfz51_2 := blk_frozen BK103.out 2
                      have hfz51_3 := blk_frozen BK103.out 3
                      go_wp2_with (first | ((with_reducible refine gate_callee (f := 94) rfl ?_); refine goesL_ (some 72) rfl rfl Try.func94 (by kernel_rfl) rfl #[.int .i64 a0_1] rfl (by (try simp only [List.map_toArray, List.map_cons, List.map_nil]); first | done | rfl | (simp only [List.length_drop, List.length_take]; rfl)) ?_; (with_reducible refine (spec_l13Reg.calls a0_1 false _ A44.out).mono ?_); rintro e w' ⟨rfl, ⟨nd, rfl⟩⟩; refine ⟨_, rfl, ?_⟩))
                      go_ret
                      exact ⟨by first | rfl | (simp [errW_none, errW_some] <;> rfl) | (simp [*, errW_none, errW_some] <;> rfl), by repeat (first | (with_reducible first | exact HB.out | apply below_alloc | apply pw_below_drewN | apply below_drew1 | refine below_set ?_ GE103.out) | exact HB.out)⟩
                  · replace c43 := Bool.eq_false_iff.mpr c43
                    subst c43
                    have H1 : (if a0_0 = 9 then ((spec_l13Reg.f a0_1).bind fun t111 => (if t111 = true then ((spec_l5In.f a0_2 0 2147483646).bind fun t112 => (if t112 = true then (some (a0_3 == 0)) else (some false))) else (some false))) else (if a0_0 = 10 then (spec_l13Instr.j2 kj39 a0_0 (a0_0 == 10) a0_0 a0_1 a0_2 a0_3) else (if a0_0 = 11 then (spec_l13Instr.j2 kj39 a0_0 (a0_0 == 11) a0_0 a0_1 a0_2 a0_3) else (spec_l13Instr.j2 kj39 a0_0 (a0_0 == 12) a0_0 a0_1 a0_2 a0_3)))) = some r := by rw [if_neg (show ¬ (false = true) by decide)] at H; exact H
                    clear H
                    have H := H1
                    clear H1
                    by_cases c52 : a0_0 = 9
                    · rw [if_pos c52] at H
                      have c52b0 : (a0_0 == 9) = true := beq_iff_eq.mpr c52
                      have c52b1 : (a0_0 != 9) = false := bne_eq_false_iff_eq.mpr c52
                      clear c52
                      replace H := Option.bind_eq_some_iff.mp H
                      obtain ⟨t111, A530, H⟩ := H
                      replace H : (if t111 = true then ((spec_l5In.f a0_2 0 2147483646).bind fun t112 => (if t112 = true then (some (a0_3 == 0)) else (some false))) else (some false)) = some r := H
                      have A53 := Aside0.mk A530
                      clear A530
                      by_cases c54 : t111 = true
                      · subst c54
                        have H1 : ((spec_l5In.f a0_2 0 2147483646).bind fun t112 => (if t112 = true then (some (a0_3 == 0)) else (some false))) = some r := by rw [if_pos rfl] at H; exact H
                        clear H
                        have H := H1
                        clear H1
                        replace H := Option.bind_eq_some_iff.mp H
                        obtain ⟨t112, A550, H⟩ := H
                        replace H : (if t112 = true then (some (a0_3 == 0)) else (some false)) = some r := H
                        have A55 := Aside0.mk A550
                        clear A550
                        by_cases c56 : t112 = true
                        · subst c56
                          have H1 : (some (a0_3 == 0)) = some r := by rw [if_pos rfl] at H; exact H
                          clear H
                          have H := H1
                          clear H1
                          obtain rfl := Option.some.inj H
                          have hcz57_0 : wc.cell? ⟨gb103, 0, none⟩ = some (.int .i64 a0_0) := (blk_cell BK103.out 0).trans rfl
                          have hcz57_1 : wc.cell? ⟨gb103, 1, none⟩ = some (.int .i64 a0_1) := (blk_cell BK103.out 1).trans rfl
                          have hcz57_2 : wc.cell? ⟨gb103, 2, none⟩ = some (.int .i64 a0_2) := (blk_cell BK103.out 2).trans rfl
                          have hcz57_3 : wc.cell? ⟨gb103, 3, none⟩ = some (.int .i64 a0_3) := (blk_cell BK103.out 3).trans rfl
                          have hfz57_0 := blk_frozen BK103.out 0
                          have hfz57_1 := blk_frozen BK103.out 1
                          have hfz57_2 := blk_frozen BK103.out 2
                          have hfz57_3 := blk_frozen BK103.out 3
                          go_wp2_with (first | ((with_reducible refine gate_callee (f := 94) rfl ?_); refine goesL_ (some 87) rfl rfl Try.func94 (by kernel_rfl) rfl #[.int .i64 a0_1] rfl (by (try simp only [List.map_toArray, List.map_cons, List.map_nil]); first | done | rfl | (simp only [List.length_drop, List.length_take]; rfl)) ?_; (with_reducible refine (spec_l13Reg.calls a0_1 true _ A53.out).mono ?_); rintro e w' ⟨rfl, ⟨nd, rfl⟩⟩; refine ⟨_, rfl, ?_⟩) | (go_at_call 62; (with_reducible refine (spec_l5In.calls a0_2 0 2147483646 true _ A55.out).mono ?_); rintro e w' ⟨rfl, ⟨nd, rfl⟩⟩))
                          go_ret
                          exact ⟨by first | rfl | (simp [errW_none, errW_some] <;> rfl) | (simp [*, errW_none, errW_some] <;> rfl), by repeat (first | (with_reducible first | exact HB.out | apply below_alloc | apply pw_below_drewN | apply below_drew1 | refine below_set ?_ GE103.out) | exact HB.out)⟩
                        · replace c56 := Bool.eq_false_iff.mpr c56
                          subst c56
                          have H1 : (some false) = some r := by rw [if_neg (show ¬ (false = true) by decide)] at H; exact H
                          clear H
                          have H := H1
                          clear H1
                          obtain rfl := Option.some.inj H
                          have hcz58_0 : wc.cell? ⟨gb103, 0, none⟩ = some (.int .i64 a0_0) := (blk_cell BK103.out 0).trans rfl
                          have hcz58_1 : wc.cell? ⟨gb103, 1, none⟩ = some (.int .i64 a0_1) := (blk_cell BK103.out 1).trans rfl
                          have hcz58_2 : wc.cell? ⟨gb103, 2, none⟩ = some (.int .i64 a0_2) := (blk_cell BK103.out 2).trans rfl
                          have hcz58_3 : wc.cell? ⟨gb103, 3, none⟩ = some (.int .i64 a0_3) := (blk_cell BK103.out 3).trans rfl
                          have hfz58_0 := blk_frozen BK103.out 0
                          have hfz58_1 := blk_frozen BK103.out 1
                          have hfz58_2 := blk_frozen BK103.out 2
                          have hfz58_3 := blk_frozen BK103.out 3
                          go_wp2_with (first | ((with_reducible refine gate_callee (f := 94) rfl ?_); refine goesL_ (some 87) rfl rfl Try.func94 (by kernel_rfl) rfl #[.int .i64 a0_1] rfl (by (try simp only [List.map_toArray, List.map_cons, List.map_nil]); first | done | rfl | (simp only [List.length_drop, List.length_take]; rfl)) ?_; (with_reducible refine (spec_l13Reg.calls a0_1 true _ A53.out).mono ?_); rintro e w' ⟨rfl, ⟨nd, rfl⟩⟩; refine ⟨_, rfl, ?_⟩) | (go_at_call 62; (with_reducible refine (spec_l5In.calls a0_2 0 2147483646 false _ A55.out).mono ?_); rintro e w' ⟨rfl, ⟨nd, rfl⟩⟩))
                          go_ret
                          exact ⟨by first | rfl | (simp [errW_none, errW_some] <;> rfl) | (simp [*, errW_none, errW_some] <;> rfl), by repeat (first | (with_reducible first | exact HB.out | apply below_alloc | apply pw_below_drewN | apply below_drew1 | refine below_set ?_ GE103.out) | exact HB.out)⟩
                      · replace c54 := Bool.eq_false_iff.mpr c54
                        subst c54
                        have H1 : (some false) = some r := by rw [if_neg (show ¬ (false = true) by decide)] at H; exact H
                        clear H
                        have H := H1
                        clear H1
                        obtain rfl := Option.some.inj H
                        have hcz59_0 : wc.cell? ⟨gb103, 0, none⟩ = some (.int .i64 a0_0) := (blk_cell BK103.out 0).trans rfl
                        have hcz59_1 : wc.cell? ⟨gb103, 1, none⟩ = some (.int .i64 a0_1) := (blk_cell BK103.out 1).trans rfl
                        have hcz59_2 : wc.cell? ⟨gb103, 2, none⟩ = some (.int .i64 a0_2) := (blk_cell BK103.out 2).trans rfl
                        have hcz59_3 : wc.cell? ⟨gb103, 3, none⟩ = some (.int .i64 a0_3) := (blk_cell BK103.out 3).trans rfl
                        have hfz59_0 := blk_frozen BK103.out 0
                        have hfz59_1 := blk_frozen BK103.out 1
                        have hfz59_2 := blk_frozen BK103.out 2
                        have hfz59_3 := blk_frozen BK103.out 3
                        go_wp2_with (first | ((with_reducible refine gate_callee (f := 94) rfl ?_); refine goesL_ (some 87) rfl rfl Try.func94 (by kernel_rfl) rfl #[.int .i64 a0_1] rfl (by (try simp only [List.map_toArray, List.map_cons, List.map_nil]); first | done | rfl | (simp only [List.length_drop, List.length_take]; rfl)) ?_; (with_reducible refine (spec_l13Reg.calls a0_1 false _ A53.out).mono ?_); rintro e w' ⟨rfl, ⟨nd, rfl⟩⟩; refine ⟨_, rfl, ?_⟩))
                        go_ret
                        exact ⟨by first | rfl | (simp [errW_none, errW_some] <;> rfl) | (simp [*, errW_none, errW_some] <;> rfl), by repeat (first | (with_reducible first | exact HB.out | apply below_alloc | apply pw_below_drewN | apply below_drew1 | refine below_set ?_ GE103.out) | exact HB.out)⟩
                    · rw [if_neg c52] at H
                      have c52b0 : (a0_0 == 9) = false := beq_eq_false_iff_ne.mpr c52
                      have c52b1 : (a0_0 != 9) = true := bne_iff_ne.mpr c52
                      have HC60 := Aside0.mk H
                      clear H
                      go_upto_if 98 with (fail)
                      go_cut [98] (fun v98 wc => ∃ (kq : Nat) (x98_59 : Bool), v98 = .bool x98_59 ∧ Aside0 (spec_l13Instr.j2 kq a0_0 x98_59 a0_0 a0_1 a0_2 a0_3 = some r) ∧ Aside0 (kq ≤ kj39) ∧ Aside0 (wc.heap[gb103]? = some (.cells #[.int .i64 a0_0, .int .i64 a0_1, .int .i64 a0_2, .int .i64 a0_3] 83 (0, 0))) ∧ Aside0 (Below w.heap.size w wc))
                      case first =>
                        have H := HC60.out
                        clear HC60
                        by_cases c61 : a0_0 = 10
                        · rw [if_pos c61] at H
                          have c61b0 : (a0_0 == 10) = true := beq_iff_eq.mpr c61
                          have c61b1 : (a0_0 != 10) = false := bne_eq_false_iff_eq.mpr c61
                          clear c61
                          (first | rw [c61b0] | (simp only [i64_w, i32_w]; rw [c61b0]) | skip)
                          have H' := Aside0.mk H
                          clear H
                          go_wp2
                          go_meet
                          case rel => exact ⟨_, ((a0_0 == 10)), (by first | rfl | (simp; done) | (simp [*]; done)), H', ⟨by have := HJ20.out; have := HJ39.out; first | omega | exact Nat.le_refl _⟩, ⟨by (with_reducible repeat (first | refine blk_drewN ?_ _ | refine blk_drew ?_ | refine blk_alloc ?_ _)); exact BK103.out⟩, ⟨by repeat (first | (with_reducible first | exact HB.out | apply below_alloc | apply pw_below_drewN | apply below_drew1 | refine below_set ?_ GE103.out) | exact HB.out)⟩⟩
                        · rw [if_neg c61] at H
                          have c61b0 : (a0_0 == 10) = false := beq_eq_false_iff_ne.mpr c61
                          have c61b1 : (a0_0 != 10) = true := bne_iff_ne.mpr c61
                          (first | rw [c61b0] | (simp only [i64_w, i32_w]; rw [c61b0]) | skip)
                          by_cases c62 : a0_0 = 11
                          · rw [if_pos c62] at H
                            have c62b0 : (a0_0 == 11) = true := beq_iff_eq.mpr c62
                            have c62b1 : (a0_0 != 11) = false := bne_eq_false_iff_eq.mpr c62
                            clear c62
                            have H' := Aside0.mk H
                            clear H
                            go_wp2
                            go_meet
                            case rel => exact ⟨_, ((a0_0 == 11)), (by first | rfl | (simp; done) | (simp [*]; done)), H', ⟨by have := HJ20.out; have := HJ39.out; first | omega | exact Nat.le_refl _⟩, ⟨by (with_reducible repeat (first | refine blk_drewN ?_ _ | refine blk_drew ?_ | refine blk_alloc ?_ _)); exact BK103.out⟩, ⟨by repeat (first | (with_reducible first | exact HB.out | apply below_alloc | apply pw_below_drewN | apply below_drew1 | refine below_set ?_ GE103.out) | exact HB.out)⟩⟩
                          · rw [if_neg c62] at H
                            have c62b0 : (a0_0 == 11) = false := beq_eq_false_iff_ne.mpr c62
                            have c62b1 : (a0_0 != 11) = true := bne_iff_ne.mpr c62
                            have H' := Aside0.mk H
                            clear H
                            go_wp2
                            go_meet
                            case rel => exact ⟨_, ((a0_0 == 12)), (by first | rfl | (simp; done) | (simp [*]; done)), H', ⟨by have := HJ20.out; have := HJ39.out; first | omega | exact Nat.le_refl _⟩, ⟨by (with_reducible repeat (first | refine blk_drewN ?_ _ | refine blk_drew ?_ | refine blk_alloc ?_ _)); exact BK103.out⟩, ⟨by repeat (first | (with_reducible first | exact HB.out | apply below_alloc | apply pw_below_drewN | apply below_drew1 | refine below_set ?_ GE103.out) | exact HB.out)⟩⟩
                      case rest =>
                        clear HC60
                        try clear c1
                        try clear c2
                        try clear c2b0
                        try clear c2b1
                        try clear p2
                        try clear c3
                        try clear c4
                        try clear c5
                        try clear c5b0
                        try clear c5b1
                        try clear c6
                        try clear c7
                        try clear c9
                        try clear c12
                        try clear c12b0
                        try clear c12b1
                        try clear c13
                        try clear c13b0
                        try clear c13b1
                        try clear c14
                        try clear c14b0
                        try clear c14b1
                        try clear c24
                        try clear c24b0
                        try clear c24b1
                        try clear c25
                        try clear c27
                        try clear c29
                        try clear c33
                        try clear c33b0
                        try clear c33b1
                        try clear c35
                        try clear c36
                        try clear c36b0
                        try clear c36b1
                        try clear c41
                        try clear c41b0
                        try clear c41b1
                        try clear c42
                        try clear c42b0
                        try clear c42b1
                        try clear c43
                        try clear c45
                        try clear c47
                        try clear c52
                        try clear c52b0
                        try clear c52b1
                        try clear c54
                        try clear c56
                        try clear c61
                        try clear c61b0
                        try clear c61b1
                        try clear c62
                        try clear c62b0
                        try clear c62b1
                        try clear hcz11_0
                        try clear hcz11_1
                        try clear hcz11_2
                        try clear hcz11_3
                        try clear hcz16_0
                        try clear hcz16_1
                        try clear hcz16_2
                        try clear hcz16_3
                        try clear hcz18_0
                        try clear hcz18_1
                        try clear hcz18_2
                        try clear hcz18_3
                        try clear hcz20_0
                        try clear hcz20_1
                        try clear hcz20_2
                        try clear hcz20_3
                        try clear hcz23_0
                        try clear hcz23_1
                        try clear hcz23_2
                        try clear hcz23_3
                        try clear hcz30_0
                        try clear hcz30_1
                        try clear hcz30_2
                        try clear hcz30_3
                        try clear hcz31_0
                        try clear hcz31_1
                        try clear hcz31_2
                        try clear hcz31_3
                        try clear hcz32_0
                        try clear hcz32_1
                        try clear hcz32_2
                        try clear hcz32_3
                        try clear hcz37_0
                        try clear hcz37_1
                        try clear hcz37_2
                        try clear hcz37_3
                        try clear hcz38_0
                        try clear hcz38_1
                        try clear hcz38_2
                        try clear hcz38_3
                        try clear hcz39_0
                        try clear hcz39_1
                        try clear hcz39_2
                        try clear hcz39_3
                        try clear hcz49_0
                        try clear hcz49_1
                        try clear hcz49_2
                        try clear hcz49_3
                        try clear hcz50_0
                        try clear hcz50_1
                        try clear hcz50_2
                        try clear hcz50_3
                        try clear hcz51_0
                        try clear hcz51_1
                        try clear hcz51_2
                        try clear hcz51_3
                        try clear hcz57_0
                        try clear hcz57_1
                        try clear hcz57_2
                        try clear hcz57_3
                        try clear hcz58_0
                        try clear hcz58_1
                        try clear hcz58_2
                        try clear hcz58_3
                        try clear hcz59_0
                        try clear hcz59_1
                        try clear hcz59_2
                        try clear hcz59_3
                        try clear hcz7_0
                        try clear hcz7_1
                        try clear hcz7_2
                        try clear hcz7_3
                        try clear hcz9_0
                        try clear hcz9_1
                        try clear hcz9_2
                        try clear hcz9_3
                        try clear hfz11_0
                        try clear hfz11_1
                        try clear hfz11_2
                        try clear hfz11_3
                        try clear hfz16_0
                        try clear hfz16_1
                        try clear hfz16_2
                        try clear hfz16_3
                        try clear hfz18_0
                        try clear hfz18_1
                        try clear hfz18_2
                        try clear hfz18_3
                        try clear hfz20_0
                        try clear hfz20_1
                        try clear hfz20_2
                        try clear hfz20_3
                        try clear hfz23_0
                        try clear hfz23_1
                        try clear hfz23_2
                        try clear hfz23_3
                        try clear hfz30_0
                        try clear hfz30_1
                        try clear hfz30_2
                        try clear hfz30_3
                        try clear hfz31_0
                        try clear hfz31_1
                        try clear hfz31_2
                        try clear hfz31_3
                        try clear hfz32_0
                        try clear hfz32_1
                        try clear hfz32_2
                        try clear hfz32_3
                        try clear hfz37_0
                        try clear hfz37_1
                        try clear hfz37_2
                        try clear hfz37_3
                        try clear hfz38_0
                        try clear hfz38_1
                        try clear hfz38_2
                        try clear hfz38_3
                        try clear hfz39_0
                        try clear hfz39_1
                        try clear hfz39_2
                        try clear hfz39_3
                        try clear hfz49_0
                        try clear hfz49_1
                        try clear hfz49_2
                        try clear hfz49_3
                        try clear hfz50_0
                        try clear hfz50_1
                        try clear hfz50_2
                        try clear hfz50_3
                        try clear hfz51_0
                        try clear hfz51_1
                        try clear hfz51_2
                        try clear hfz51_3
                        try clear hfz57_0
                        try clear hfz57_1
                        try clear hfz57_2
                        try clear hfz57_3
                        try clear hfz58_0
                        try clear hfz58_1
                        try clear hfz58_2
                        try clear hfz58_3
                        try clear hfz59_0
                        try clear hfz59_1
                        try clear hfz59_2
                        try clear hfz59_3
                        try clear hfz7_0
                        try clear hfz7_1
                        try clear hfz7_2
                        try clear hfz7_3
                        try clear hfz9_0
                        try clear hfz9_1
                        try clear hfz9_2
                        try clear hfz9_3
                        try clear p2
                        obtain ⟨kq, x98_59, rfl, HA, HJ59, BK103, HB⟩ := hcut
                        cases kq with
                        | zero => exact absurd HA.out (by simp [spec_l13Instr.j2])
                        | succ kj59 =>
                          have H := HA.out
                          clear HA
                          simp only [spec_l13Instr.j2] at H
                          by_cases c63 : x98_59 = true
                          · subst c63
                            have H1 : ((spec_l13Reg.f a0_1).bind fun t113 => (if t113 = true then ((spec_l13Reg.f a0_2).bind fun t114 => (if t114 = true then ((spec_l13Reg.f a0_3).bind fun t115 => (some t115)) else (some false))) else (some false))) = some r := by rw [if_pos rfl] at H; exact H
                            clear H
                            have H := H1
                            clear H1
                            replace H := Option.bind_eq_some_iff.mp H
                            obtain ⟨t113, A640, H⟩ := H
                            replace H : (if t113 = true then ((spec_l13Reg.f a0_2).bind fun t114 => (if t114 = true then ((spec_l13Reg.f a0_3).bind fun t115 => (some t115)) else (some false))) else (some false)) = some r := H
                            have A64 := Aside0.mk A640
                            clear A640
                            by_cases c65 : t113 = true
                            · subst c65
                              have H1 : ((spec_l13Reg.f a0_2).bind fun t114 => (if t114 = true then ((spec_l13Reg.f a0_3).bind fun t115 => (some t115)) else (some false))) = some r := by rw [if_pos rfl] at H; exact H
                              clear H
                              have H := H1
                              clear H1
                              replace H := Option.bind_eq_some_iff.mp H
                              obtain ⟨t114, A660, H⟩ := H
                              replace H : (if t114 = true then ((spec_l13Reg.f a0_3).bind fun t115 => (some t115)) else (some false)) = some r := H
                              have A66 := Aside0.mk A660
                              clear A660
                              by_cases c67 : t114 = true
                              · subst c67
                                have H1 : ((spec_l13Reg.f a0_3).bind fun t115 => (some t115)) = some r := by rw [if_pos rfl] at H; exact H
                                clear H
                                have H := H1
                                clear H1
                                replace H := Option.bind_eq_some_iff.mp H
                                obtain ⟨t115, A680, H⟩ := H
                                replace H : (some t115) = some r := H
                                have A68 := Aside0.mk A680
                                clear A680
                                obtain rfl := Option.some.inj H
                                have hcz69_0 : wc.cell? ⟨gb103, 0, none⟩ = some (.int .i64 a0_0) := (blk_cell BK103.out 0).trans rfl
                                have hcz69_1 : wc.cell? ⟨gb103, 1, none⟩ = some (.int .i64 a0_1) := (blk_cell BK103.out 1).trans rfl
                                have hcz69_2 : wc.cell? ⟨gb103, 2, none⟩ = some (.int .i64 a0_2) := (blk_cell BK103.out 2).trans rfl
                                have hcz69_3 : wc.cell? ⟨gb103, 3, none⟩ = some (.int .i64 a0_3) := (blk_cell BK103.out 3).trans rfl
                                have hfz69_0 := blk_frozen BK103.out 0
                                have hfz69_1 := blk_frozen BK103.out 1
                                have hfz69_2 := blk_frozen BK103.out 2
                                have hfz69_3 := blk_frozen BK103.out 3
                                go_wp2_with (first | ((with_reducible refine gate_callee (f := 94) rfl ?_); refine goesL_ (some 104) rfl rfl Try.func94 (by kernel_rfl) rfl #[.int .i64 a0_1] rfl (by (try simp only [List.map_toArray, List.map_cons, List.map_nil]); first | done | rfl | (simp only [List.length_drop, List.length_take]; rfl)) ?_; (with_reducible refine (spec_l13Reg.calls a0_1 true _ A64.out).mono ?_); rintro e w' ⟨rfl, ⟨nd, rfl⟩⟩; refine ⟨_, rfl, ?_⟩) | (go_at_call 94; (with_reducible refine (spec_l13Reg.calls a0_2 true _ A66.out).mono ?_); rintro e w' ⟨rfl, ⟨nd, rfl⟩⟩) | (go_at_call 94; (with_reducible refine (spec_l13Reg.calls a0_3 t115 _ A68.out).mono ?_); rintro e w' ⟨rfl, ⟨nd, rfl⟩⟩))
                                go_ret
                                exact ⟨by first | rfl | (simp [errW_none, errW_some] <;> rfl) | (simp [*, errW_none, errW_some] <;> rfl), by repeat (first | (with_reducible first | exact HB.out | apply below_alloc | apply pw_below_drewN | apply below_drew1 | refine below_set ?_ GE103.out) | exact HB.out)⟩
                              · replace c67 := Bool.eq_false_iff.mpr c67
                                subst c67
                                have H1 : (some false) = some r := by rw [if_neg (show ¬ (false = true) by decide)] at H; exact H
                                clear H
                                have H := H1
                                clear H1
                                obtain rfl := Option.some.inj H
                                have hcz70_0 : wc.cell? ⟨gb103, 0, none⟩ = some (.int .i64 a0_0) := (blk_cell BK103.out 0).trans rfl
                                have hcz70_1 : wc.cell? ⟨gb103, 1, none⟩ = some (.int .i64 a0_1) := (blk_cell BK103.out 1).trans rfl
                                have hcz70_2 : wc.cell? ⟨gb103, 2, none⟩ = some (.int .i64 a0_2) := (blk_cell BK103.out 2).trans rfl
                                have hcz70_3 : wc.cell? ⟨gb103, 3, none⟩ = some (.int .i64 a0_3) := (blk_cell BK103.out 3).trans rfl
                                have hfz70_0 := blk_frozen BK103.out 0
                                have hfz70_1 := blk_frozen BK103.out 1
                                have hfz70_2 := blk_frozen BK103.out 2
                                have hfz70_3 := blk_frozen BK103.out 3
                                go_wp2_with (first | ((with_reducible refine gate_callee (f := 94) rfl ?_); refine goesL_ (some 104) rfl rfl Try.func94 (by kernel_rfl) rfl #[.int .i64 a0_1] rfl (by (try simp only [List.map_toArray, List.map_cons, List.map_nil]); first | done | rfl | (simp only [List.length_drop, List.length_take]; rfl)) ?_; (with_reducible refine (spec_l13Reg.calls a0_1 true _ A64.out).mono ?_); rintro e w' ⟨rfl, ⟨nd, rfl⟩⟩; refine ⟨_, rfl, ?_⟩) | (go_at_call 94; (with_reducible refine (spec_l13Reg.calls a0_2 false _ A66.out).mono ?_); rintro e w' ⟨rfl, ⟨nd, rfl⟩⟩))
                                go_ret
                                exact ⟨by first | rfl | (simp [errW_none, errW_some] <;> rfl) | (simp [*, errW_none, errW_some] <;> rfl), by repeat (first | (with_reducible first | exact HB.out | apply below_alloc | apply pw_below_drewN | apply below_drew1 | refine below_set ?_ GE103.out) | exact HB.out)⟩
                            · replace c65 := Bool.eq_false_iff.mpr c65
                              subst c65
                              have H1 : (some false) = some r := by rw [if_neg (show ¬ (false = true) by decide)] at H; exact H
                              clear H
                              have H := H1
                              clear H1
                              obtain rfl := Option.some.inj H
                              have hcz71_0 : wc.cell? ⟨gb103, 0, none⟩ = some (.int .i64 a0_0) := (blk_cell BK103.out 0).trans rfl
                              have hcz71_1 : wc.cell? ⟨gb103, 1, none⟩ = some (.int .i64 a0_1) := (blk_cell BK103.out 1).trans rfl
                              have hcz71_2 : wc.cell? ⟨gb103, 2, none⟩ = some (.int .i64 a0_2) := (blk_cell BK103.out 2).trans rfl
                              have hcz71_3 : wc.cell? ⟨gb103, 3, none⟩ = some (.int .i64 a0_3) := (blk_cell BK103.out 3).trans rfl
                              have hfz71_0 := blk_frozen BK103.out 0
                              have hfz71_1 := blk_frozen BK103.out 1
                              have hfz71_2 := blk_frozen BK103.out 2
                              have hfz71_3 := blk_frozen BK103.out 3
                              go_wp2_with (first | ((with_reducible refine gate_callee (f := 94) rfl ?_); refine goesL_ (some 104) rfl rfl Try.func94 (by kernel_rfl) rfl #[.int .i64 a0_1] rfl (by (try simp only [List.map_toArray, List.map_cons, List.map_nil]); first | done | rfl | (simp only [List.length_drop, List.length_take]; rfl)) ?_; (with_reducible refine (spec_l13Reg.calls a0_1 false _ A64.out).mono ?_); rintro e w' ⟨rfl, ⟨nd, rfl⟩⟩; refine ⟨_, rfl, ?_⟩))
                              go_ret
                              exact ⟨by first | rfl | (simp [errW_none, errW_some] <;> rfl) | (simp [*, errW_none, errW_some] <;> rfl), by repeat (first | (with_reducible first | exact HB.out | apply below_alloc | apply pw_below_drewN | apply below_drew1 | refine below_set ?_ GE103.out) | exact HB.out)⟩
                          · replace c63 := Bool.eq_false_iff.mpr c63
                            subst c63
                            have H1 : (if a0_0 = 13 then (spec_l13Instr.j3 kj59 (a0_0 == 13) a0_0 a0_1 a0_2 a0_3) else (if a0_0 = 14 then (spec_l13Instr.j3 kj59 (a0_0 == 14) a0_0 a0_1 a0_2 a0_3) else (if a0_0 = 15 then (spec_l13Instr.j3 kj59 (a0_0 == 15) a0_0 a0_1 a0_2 a0_3) else (spec_l13Instr.j3 kj59 (a0_0 == 16) a0_0 a0_1 a0_2 a0_3)))) = some r := by rw [if_neg (show ¬ (false = true) by decide)] at H; exact H
                            clear H
                            have H := H1
                            clear H1
                            have HC72 := Aside0.mk H
                            clear H
                            go_upto_if 115 with (fail)
                            go_cut [115] (fun v115 wc => ∃ (kq : Nat) (x115_71 : Bool), v115 = .bool x115_71 ∧ Aside0 (spec_l13Instr.j3 kq x115_71 a0_0 a0_1 a0_2 a0_3 = some r) ∧ Aside0 (kq ≤ kj59) ∧ Aside0 (wc.heap[gb103]? = some (.cells #[.int .i64 a0_0, .int .i64 a0_1, .int .i64 a0_2, .int .i64 a0_3] 83 (0, 0))) ∧ Aside0 (Below w.heap.size w wc))
                            case first =>
                              have H := HC72.out
                              clear HC72
                              by_cases c73 : a0_0 = 13
                              · rw [if_pos c73] at H
                                have c73b0 : (a0_0 == 13) = true := beq_iff_eq.mpr c73
                                have c73b1 : (a0_0 != 13) = false := bne_eq_false_iff_eq.mpr c73
                                clear c73
                                (first | rw [c73b0] | (simp only [i64_w, i32_w]; rw [c73b0]) | skip)
                                have H' := Aside0.mk H
                                clear H
                                go_wp2
                                go_meet
                                case rel => exact ⟨_, ((a0_0 == 13)), (by first | rfl | (simp; done) | (simp [*]; done)), H', ⟨by have := HJ20.out; have := HJ39.out; have := HJ59.out; first | omega | exact Nat.le_refl _⟩, ⟨by (with_reducible repeat (first | refine blk_drewN ?_ _ | refine blk_drew ?_ | refine blk_alloc ?_ _)); exact BK103.out⟩, ⟨by repeat (first | (with_reducible first | exact HB.out | apply below_alloc | apply pw_below_drewN | apply below_drew1 | refine below_set ?_ GE103.out) | exact HB.out)⟩⟩
                              · rw [if_neg c73] at H
                                have c73b0 : (a0_0 == 13) = false := beq_eq_false_iff_ne.mpr c73
                                have c73b1 : (a0_0 != 13) = true := bne_iff_ne.mpr c73
                                (first | rw [c73b0] | (simp only [i64_w, i32_w]; rw [c73b0]) | skip)
                                by_cases c74 : a0_0 = 14
                                · rw [if_pos c74] at H
                                  have c74b0 : (a0_0 == 14) = true := beq_iff_eq.mpr c74
                                  have c74b1 : (a0_0 != 14) = false := bne_eq_false_iff_eq.mpr c74
                                  clear c74
                                  have H' := Aside0.mk H
                                  clear H
                                  go_wp2
                                  go_meet
                                  case rel => exact ⟨_, ((a0_0 == 14)), (by first | rfl | (simp; done) | (simp [*]; done)), H', ⟨by have := HJ20.out; have := HJ39.out; have := HJ59.out; first | omega | exact Nat.le_refl _⟩, ⟨by (with_reducible repeat (first | refine blk_drewN ?_ _ | refine blk_drew ?_ | refine blk_alloc ?_ _)); exact BK103.out⟩, ⟨by repeat (first | (with_reducible first | exact HB.out | apply below_alloc | apply pw_below_drewN | apply below_drew1 | refine below_set ?_ GE103.out) | exact HB.out)⟩⟩
                                · rw [if_neg c74] at H
                                  have c74b0 : (a0_0 == 14) = false := beq_eq_false_iff_ne.mpr c74
                                  have c74b1 : (a0_0 != 14) = true := bne_iff_ne.mpr c74
                                  by_cases c75 : a0_0 = 15
                                  · rw [if_pos c75] at H
                                    have c75b0 : (a0_0 == 15) = true := beq_iff_eq.mpr c75
                                    have c75b1 : (a0_0 != 15) = false := bne_eq_false_iff_eq.mpr c75
                                    clear c75
                                    have H' := Aside0.mk H
                                    clear H
                                    go_wp2
                                    go_meet
                                    case rel => exact ⟨_, ((a0_0 == 15)), (by first | rfl | (simp; done) | (simp [*]; done)), H', ⟨by have := HJ20.out; have := HJ39.out; have := HJ59.out; first | omega | exact Nat.le_refl _⟩, ⟨by (with_reducible repeat (first | refine blk_drewN ?_ _ | refine blk_drew ?_ | refine blk_alloc ?_ _)); exact BK103.out⟩, ⟨by repeat (first | (with_reducible first | exact HB.out | apply below_alloc | apply pw_below_drewN | apply below_drew1 | refine below_set ?_ GE103.out) | exact HB.out)⟩⟩
                                  · rw [if_neg c75] at H
                                    have c75b0 : (a0_0 == 15) = false := beq_eq_false_iff_ne.mpr c75
                                    have c75b1 : (a0_0 != 15) = true := bne_iff_ne.mpr c75
                                    have H' := Aside0.mk H
                                    clear H
                                    go_wp2
                                    go_meet
                                    case rel => exact ⟨_, ((a0_0 == 16)), (by first | rfl | (simp; done) | (simp [*]; done)), H', ⟨by have := HJ20.out; have := HJ39.out; have := HJ59.out; first | omega | exact Nat.le_refl _⟩, ⟨by (with_reducible repeat (first | refine blk_drewN ?_ _ | refine blk_drew ?_ | refine blk_alloc ?_ _)); exact BK103.out⟩, ⟨by repeat (first | (with_reducible first | exact HB.out | apply below_alloc | apply pw_below_drewN | apply below_drew1 | refine below_set ?_ GE103.out) | exact HB.out)⟩⟩
                            case rest =>
                              clear HC72
                              try clear c1
                              try clear c2
                              try clear c2b0
                              try clear c2b1
                              try clear p2
                              try clear c3
                              try clear c4
                              try clear c5
                              try clear c5b0
                              try clear c5b1
                              try clear c6
                              try clear c7
                              try clear c9
                              try clear c12
                              try clear c12b0
                              try clear c12b1
                              try clear c13
                              try clear c13b0
                              try clear c13b1
                              try clear c14
                              try clear c14b0
                              try clear c14b1
                              try clear c24
                              try clear c24b0
                              try clear c24b1
                              try clear c25
                              try clear c27
                              try clear c29
                              try clear c33
                              try clear c33b0
                              try clear c33b1
                              try clear c35
                              try clear c36
                              try clear c36b0
                              try clear c36b1
                              try clear c41
                              try clear c41b0
                              try clear c41b1
                              try clear c42
                              try clear c42b0
                              try clear c42b1
                              try clear c43
                              try clear c45
                              try clear c47
                              try clear c52
                              try clear c52b0
                              try clear c52b1
                              try clear c54
                              try clear c56
                              try clear c61
                              try clear c61b0
                              try clear c61b1
                              try clear c62
                              try clear c62b0
                              try clear c62b1
                              try clear c63
                              try clear c65
                              try clear c67
                              try clear c73
                              try clear c73b0
                              try clear c73b1
                              try clear c74
                              try clear c74b0
                              try clear c74b1
                              try clear c75
                              try clear c75b0
                              try clear c75b1
                              try clear hcz11_0
                              try clear hcz11_1
                              try clear hcz11_2
                              try clear hcz11_3
                              try clear hcz16_0
                              try clear hcz16_1
                              try clear hcz16_2
                              try clear hcz16_3
                              try clear hcz18_0
                              try clear hcz18_1
                              try clear hcz18_2
                              try clear hcz18_3
                              try clear hcz20_0
                              try clear hcz20_1
                              try clear hcz20_2
                              try clear hcz20_3
                              try clear hcz23_0
                              try clear hcz23_1
                              try clear hcz23_2
                              try clear hcz23_3
                              try clear hcz30_0
                              try clear hcz30_1
                              try clear hcz30_2
                              try clear hcz30_3
                              try clear hcz31_0
                              try clear hcz31_1
                              try clear hcz31_2
                              try clear hcz31_3
                              try clear hcz32_0
                              try clear hcz32_1
                              try clear hcz32_2
                              try clear hcz32_3
                              try clear hcz37_0
                              try clear hcz37_1
                              try clear hcz37_2
                              try clear hcz37_3
                              try clear hcz38_0
                              try clear hcz38_1
                              try clear hcz38_2
                              try clear hcz38_3
                              try clear hcz39_0
                              try clear hcz39_1
                              try clear hcz39_2
                              try clear hcz39_3
                              try clear hcz49_0
                              try clear hcz49_1
                              try clear hcz49_2
                              try clear hcz49_3
                              try clear hcz50_0
                              try clear hcz50_1
                              try clear hcz50_2
                              try clear hcz50_3
                              try clear hcz51_0
                              try clear hcz51_1
                              try clear hcz51_2
                              try clear hcz51_3
                              try clear hcz57_0
                              try clear hcz57_1
                              try clear hcz57_2
                              try clear hcz57_3
                              try clear hcz58_0
                              try clear hcz58_1
                              try clear hcz58_2
                              try clear hcz58_3
                              try clear hcz59_0
                              try clear hcz59_1
                              try clear hcz59_2
                              try clear hcz59_3
                              try clear hcz69_0
                              try clear hcz69_1
                              try clear hcz69_2
                              try clear hcz69_3
                              try clear hcz70_0
                              try clear hcz70_1
                              try clear hcz70_2
                              try clear hcz70_3
                              try clear hcz71_0
                              try clear hcz71_1
                              try clear hcz71_2
                              try clear hcz71_3
                              try clear hcz7_0
                              try clear hcz7_1
                              try clear hcz7_2
                              try clear hcz7_3
                              try clear hcz9_0
                              try clear hcz9_1
                              try clear hcz9_2
                              try clear hcz9_3
                              try clear hfz11_0
                              try clear hfz11_1
                              try clear hfz11_2
                              try clear hfz11_3
                              try clear hfz16_0
                              try clear hfz16_1
                              try clear hfz16_2
                              try clear hfz16_3
                              try clear hfz18_0
                              try clear hfz18_1
                              try clear hfz18_2
                              try clear hfz18_3
                              try clear hfz20_0
                              try clear hfz20_1
                              try clear hfz20_2
                              try clear hfz20_3
                              try clear hfz23_0
                              try clear hfz23_1
                              try clear hfz23_2
                              try clear hfz23_3
                              try clear hfz30_0
                              try clear hfz30_1
                              try clear hfz30_2
                              try clear hfz30_3
                              try clear hfz31_0
                              try clear hfz31_1
                              try clear hfz31_2
                              try clear hfz31_3
                              try clear hfz32_0
                              try clear hfz32_1
                              try clear hfz32_2
                              try clear hfz32_3
                              try clear hfz37_0
                              try clear hfz37_1
                              try clear hfz37_2
                              try clear hfz37_3
                              try clear hfz38_0
                              try clear hfz38_1
                              try clear hfz38_2
                              try clear hfz38_3
                              try clear hfz39_0
                              try clear hfz39_1
                              try clear hfz39_2
                              try clear hfz39_3
                              try clear hfz49_0
                              try clear hfz49_1
                              try clear hfz49_2
                              try clear hfz49_3
                              try clear hfz50_0
                              try clear hfz50_1
                              try clear hfz50_2
                              try clear hfz50_3
                              try clear hfz51_0
                              try clear hfz51_1
                              try clear hfz51_2
                              try clear hfz51_3
                              try clear hfz57_0
                              try clear hfz57_1
                              try clear hfz57_2
                              try clear hfz57_3
                              try clear hfz58_0
                              try clear hfz58_1
                              try clear hfz58_2
                              try clear hfz58_3
                              try clear hfz59_0
                              try clear hfz59_1
                              try clear hfz59_2
                              try clear hfz59_3
                              try clear hfz69_0
                              try clear hfz69_1
                              try clear hfz69_2
                              try clear hfz69_3
                              try clear hfz70_0
                              try clear hfz70_1
                              try clear hfz70_2
                              try clear hfz70_3
                              try clear hfz71_0
                              try clear hfz71_1
                              try clear hfz71_2
                              try clear hfz71_3
                              try clear hfz7_0
                              try clear hfz7_1
                              try clear hfz7_2
                              try clear hfz7_3
                              try clear hfz9_0
                              try clear hfz9_1
                              try clear hfz9_2
                              try clear hfz9_3
                              try clear p2
                              obtain ⟨kq, x115_71, rfl, HA, HJ71, BK103, HB⟩ := hcut
                              cases kq with
                              | zero => exact absurd HA.out (by simp [spec_l13Instr.j3])
                              | succ kj71 =>
                                have H := HA.out
                                clear HA
                                simp only [spec_l13Instr.j3] at H
                                by_cases c76 : x115_71 = true
                                · subst c76
                                  have H1 : ((spec_l13Reg.f a0_1).bind fun t116 => (if t116 = true then ((spec_l13Reg.f a0_2).bind fun t117 => (if t117 = true then (some (a0_3 == 0)) else (some false))) else (some false))) = some r := by rw [if_pos rfl] at H; exact H
                                  clear H
                                  have H := H1
                                  clear H1
                                  replace H := Option.bind_eq_some_iff.mp H
                                  obtain ⟨t116, A770, H⟩ := H
                                  replace H : (if t116 = true then ((spec_l13Reg.f a0_2).bind fun t117 => (if t117 = true then (some (a0_3 == 0)) else (some false))) else (some false)) = some r := H
                                  have A77 := Aside0.mk A770
                                  clear A770
                                  by_cases c78 : t116 = true
                                  · subst c78
                                    have H1 : ((spec_l13Reg.f a0_2).bind fun t117 => (if t117 = true then (some (a0_3 == 0)) else (some false))) = some r := by rw [if_pos rfl] at H; exact H
                                    clear H
                                    have H := H1
                                    clear H1
                                    replace H := Option.bind_eq_some_iff.mp H
                                    obtain ⟨t117, A790, H⟩ := H
                                    replace H : (if t117 = true then (some (a0_3 == 0)) else (some false)) = some r := H
                                    have A79 := Aside0.mk A790
                                    clear A790
                                    by_cases c80 : t117 = true
                                    · subst c80
                                      have H1 : (some (a0_3 == 0)) = some r := by rw [if_pos rfl] at H; exact H
                                      clear H
                                      have H := H1
                                      clear H1
                                      obtain rfl := Option.some.inj H
                                      have hcz81_0 : wc.cell? ⟨gb103, 0, none⟩ = some (.int .i64 a0_0) := (blk_cell BK103.out 0).trans rfl
                                      have hcz81_1 : wc.cell? ⟨gb103, 1, none⟩ = some (.int .i64 a0_1) := (blk_cell BK103.out 1).trans rfl
                                      have hcz81_2 : wc.cell? ⟨gb103, 2, none⟩ = some (.int .i64 a0_2) := (blk_cell BK103.out 2).trans rfl
                                      have hcz81_3 : wc.cell? ⟨gb103, 3, none⟩ = some (.int .i64 a0_3) := (blk_cell BK103.out 3).trans rfl
                                      have hfz81_0 := blk_frozen BK103.out 0
                                      have hfz81_1 := blk_frozen BK103.out 1
                                      have hfz81_2 := blk_frozen BK103.out 2
                                      have hfz81_3 := blk_frozen BK103.out 3
                                      go_wp2_with (first | ((with_reducible refine gate_callee (f := 94) rfl ?_); refine goesL_ (some 122) rfl rfl Try.func94 (by kernel_rfl) rfl #[.int .i64 a0_1] rfl (by (try simp only [List.map_toArray, List.map_cons, List.map_nil]); first | done | rfl | (simp only [List.length_drop, List.length_take]; rfl)) ?_; (with_reducible refine (spec_l13Reg.calls a0_1 true _ A77.out).mono ?_); rintro e w' ⟨rfl, ⟨nd, rfl⟩⟩; refine ⟨_, rfl, ?_⟩) | (go_at_call 94; (with_reducible refine (spec_l13Reg.calls a0_2 true _ A79.out).mono ?_); rintro e w' ⟨rfl, ⟨nd, rfl⟩⟩))
                                      go_ret
                                      exact ⟨by first | rfl | (simp [errW_none, errW_some] <;> rfl) | (simp [*, errW_none, errW_some] <;> rfl), by repeat (first | (with_reducible first | exact HB.out | apply below_alloc | apply pw_below_drewN | apply below_drew1 | refine below_set ?_ GE103.out) | exact HB.out)⟩
                                    · replace c80 := Bool.eq_false_iff.mpr c80
                                      subst c80
                                      have H1 : (some false) = some r := by rw [if_neg (show ¬ (false = true) by decide)] at H; exact H
                                      clear H
                                      have H := H1
                                      clear H1
                                      obtain rfl := Option.some.inj H
                                      have hcz82_0 : wc.cell? ⟨gb103, 0, none⟩ = some (.int .i64 a0_0) := (blk_cell BK103.out 0).trans rfl
                                      have hcz82_1 : wc.cell? ⟨gb103, 1, none⟩ = some (.int .i64 a0_1) := (blk_cell BK103.out 1).trans rfl
                                      have hcz82_2 : wc.cell? ⟨gb103, 2, none⟩ = some (.int .i64 a0_2) := (blk_cell BK103.out 2).trans rfl
                                      have hcz82_3 : wc.cell? ⟨gb103, 3, none⟩ = some (.int .i64 a0_3) := (blk_cell BK103.out 3).trans rfl
                                      have hfz82_0 := blk_frozen BK103.out 0
                                      have hfz82_1 := blk_frozen BK103.out 1
                                      have hfz82_2 := blk_frozen BK103.out 2
                                      have hfz82_3 := blk_frozen BK103.out 3
                                      go_wp2_with (first | ((with_reducible refine gate_callee (f := 94) rfl ?_); refine goesL_ (some 122) rfl rfl Try.func94 (by kernel_rfl) rfl #[.int .i64 a0_1] rfl (by (try simp only [List.map_toArray, List.map_cons, List.map_nil]); first | done | rfl | (simp only [List.length_drop, List.length_take]; rfl)) ?_; (with_reducible refine (spec_l13Reg.calls a0_1 true _ A77.out).mono ?_); rintro e w' ⟨rfl, ⟨nd, rfl⟩⟩; refine ⟨_, rfl, ?_⟩) | (go_at_call 94; (with_reducible refine (spec_l13Reg.calls a0_2 false _ A79.out).mono ?_); rintro e w' ⟨rfl, ⟨nd, rfl⟩⟩))
                                      go_ret
                                      exact ⟨by first | rfl | (simp [errW_none, errW_some] <;> rfl) | (simp [*, errW_none, errW_some] <;> rfl), by repeat (first | (with_reducible first | exact HB.out | apply below_alloc | apply pw_below_drewN | apply below_drew1 | refine below_set ?_ GE103.out) | exact HB.out)⟩
                                  · replace c78 := Bool.eq_false_iff.mpr c78
                                    subst c78
                                    have H1 : (some false) = some r := by rw [if_neg (show ¬ (false = true) by decide)] at H; exact H
                                    clear H
                                    have H := H1
                                    clear H1
                                    obtain rfl := Option.some.inj H
                                    have hcz83_0 : wc.cell? ⟨gb103, 0, none⟩ = some (.int .i64 a0_0) := (blk_cell BK103.out 0).trans rfl
                                    have hcz83_1 : wc.cell? ⟨gb103, 1, none⟩ = some (.int .i64 a0_1) := (blk_cell BK103.out 1).trans rfl
                                    have hcz83_2 : wc.cell? ⟨gb103, 2, none⟩ = some (.int .i64 a0_2) := (blk_cell BK103.out 2).trans rfl
                                    have hcz83_3 : wc.cell? ⟨gb103, 3, none⟩ = some (.int .i64 a0_3) := (blk_cell BK103.out 3).trans rfl
                                    have hfz83_0 := blk_frozen BK103.out 0
                                    have hfz83_1 := blk_frozen BK103.out 1
                                    have hfz83_2 := blk_frozen BK103.out 2
                                    have hfz83_3 := blk_frozen BK103.out 3
                                    go_wp2_with (first | ((with_reducible refine gate_callee (f := 94) rfl ?_); refine goesL_ (some 122) rfl rfl Try.func94 (by kernel_rfl) rfl #[.int .i64 a0_1] rfl (by (try simp only [List.map_toArray, List.map_cons, List.map_nil]); first | done | rfl | (simp only [List.length_drop, List.length_take]; rfl)) ?_; (with_reducible refine (spec_l13Reg.calls a0_1 false _ A77.out).mono ?_); rintro e w' ⟨rfl, ⟨nd, rfl⟩⟩; refine ⟨_, rfl, ?_⟩))
                                    go_ret
                                    exact ⟨by first | rfl | (simp [errW_none, errW_some] <;> rfl) | (simp [*, errW_none, errW_some] <;> rfl), by repeat (first | (with_reducible first | exact HB.out | apply below_alloc | apply pw_below_drewN | apply below_drew1 | refine below_set ?_ GE103.out) | exact HB.out)⟩
                                · replace c76 := Bool.eq_false_iff.mpr c76
                                  subst c76
                                  have H1 : (some false) = some r := by rw [if_neg (show ¬ (false = true) by decide)] at H; exact H
                                  clear H
                                  have H := H1
                                  clear H1
                                  obtain rfl := Option.some.inj H
                                  go_wp2
                                  go_ret
                                  exact ⟨by first | rfl | (simp [errW_none, errW_some] <;> rfl) | (simp [*, errW_none, errW_some] <;> rfl), by repeat (first | (with_reducible first | exact HB.out | apply below_alloc | apply pw_below_drewN | apply below_drew1 | refine below_set ?_ GE103.out) | exact HB.out)⟩

end Go.Proofs.Ytajknaobbjlljaa.PFnExactCodeOk
