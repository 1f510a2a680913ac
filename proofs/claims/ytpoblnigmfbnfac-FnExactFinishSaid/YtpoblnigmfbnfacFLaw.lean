/- The law FnExactFinish, walked from end to end: where its pure text says true, the program returns true. -/
import Derived.Test.YtpoblnigmfbnfacPFnExactFinishx3
import Derived.Test.YtpoblnigmfbnfacPFnExactFinishx7
import Derived.Test.YtpoblnigmfbnfacPFnExactFinishx6
import Derived.Test.YtpoblnigmfbnfacPFnExactFinishx5
import Derived.Test.YtpoblnigmfbnfacFMk
namespace Go.Proofs.Ytpoblnigmfbnfac.PFnExactFinish
open Go.RowKit Go.Proofs.YtpoblnigmfbnfacW.PrintWords Go.Proofs.YtpoblnigmfbnfacW.PrintLast Go.Proofs.YtpoblnigmfbnfacW.PrintMore
attribute [local go_sem] max2_int min2_int max_two min_two max_three min_three max_four min_four   -- for this text's walks alone
set_option linter.unusedVariables false
set_option linter.unusedSimpArgs false
def laws_FnExactFinish.f (k : Nat) (l0 : List (List S117)) (a1 a2 : Int) (l3 : List Int) : Option Bool := if (l3.length : Int) > 1048576 then some true else ((laws_szMoveSS.f k l0 1048576).bind fun t0 => if t0 < 0 then some true else ((laws_toMoveSS.f k l0).bind fun m1 => (laws_toIntS.f k l3).bind fun s1 => (spec_Finish.f k m1 a1 a2 s1).bind fun w0_ => (laws_toMoveSS.f k l0).bind fun x0 => (laws_toIntS.f k l3).bind fun x3 => (impl_Finish.f k x0 a1 a2 x3).bind fun g0 => (laws_eqIntS.f k g0 w0_).bind fun b1 => if b1 = true then ((laws_toMoveSS.f k l0).bind fun m2 => (laws_eqMoveSS.f k x0 m2).bind fun b2 => if b2 = true then ((laws_toIntS.f k l3).bind fun s2 => (laws_eqIntS.f k x3 s2).bind fun b3 => if b3 = true then ((mkSS k x0 1 0).bind fun k1 => (laws_markIntS.f k x3 k1).bind fun p1 => if p1.1 < 0 then some false else ((laws_eqIntS.f k g0 w0_).bind fun b4 => if b4 = true then ((laws_markIntS.f k g0 1).bind fun q1 => (laws_heldIntS.f k q1.2 1).bind fun h1 => if h1 < 0 then some false else (if h1 = q1.1 then ((laws_toMoveSS.f k l0).bind fun m3 => (laws_toIntS.f k l3).bind fun s3 => (impl_Finish.f k m3 a1 a2 s3).bind fun h0 => (laws_eqIntS.f k h0 w0_).bind fun b5 => if b5 = true then ((laws_heldIntS.f k q1.2 1).bind fun h2 => if h2 < 0 then some false else (if h2 = q1.1 then (some true) else some false)) else some false) else some false)) else some false)) else some false) else some false) else some false))
theorem laws_FnExactFinish.mono : True := trivial
set_option maxHeartbeats 8000000 in
set_option maxRecDepth 100000 in
theorem laws_FnExactFinish.calls (k : Nat) (A0 : Option Addr) (c0 : Nat) (l0 : List (List S117)) (a1 : Int) (a2 : Int) (A3 : Option Addr) (c3 : Nat) (l3 : List Int) (r : Bool) (w : World) (hrt : r = true) (hr0 : Kd.C (Kd.slice 117 k117) w A0 l0.length l0) (hc0 : l0.length ≤ c0) (hr3 : Kd.C (Kd.int .i64) w A3 l3.length l3) (hc3 : l3.length ≤ c3) (h : laws_FnExactFinish.f k l0 a1 a2 l3 = some r) :
    Calls Try.prog 7 #[.slice A0 l0.length c0, .int .i64 a1, .int .i64 a2, .slice A3 l3.length c3] w fun e w' => e = .returned (.bool r) ∧ Below w.heap.size w w' := by
  obtain rfl := hrt
  have HR0 := Aside0.mk hr0
  have HC0 := Aside0.mk hc0
  have HR3 := Aside0.mk hr3
  have HC3 := Aside0.mk hc3
  have HB := Aside0.mk (Below.refl w.heap.size w)
  clear hr0 hc0 hr3 hc3
  unfold laws_FnExactFinish.f at h
  by_cases c0 : (l3.length : Int) > 1048576
  · have c0b : decide ((l3.length : Int) > 1048576) = true := decide_eq_true c0
    clear h c0
    go_enter Try.func7, Try.ntmps7
    go_wp2
    go_ret
    exact ⟨rfl, HB.out⟩
  rw [if_neg c0] at h
  have c0b : decide ((l3.length : Int) > 1048576) = false := decide_eq_false c0
  clear c0
  obtain ⟨t0, e_t0, h⟩ := Option.bind_eq_some_iff.mp h
  have E_t0 := Aside0.mk e_t0
  clear e_t0
  by_cases c1 : t0 < 0
  · have c1b : decide (t0 < 0) = true := decide_eq_true c1
    clear h c1
    go_enter Try.func7, Try.ntmps7
    have c0c : decide ((l3.length : Int) > 1048576) = false := c0b
    go_wp2_with (first | (go_at_call 38; (with_reducible refine (laws_szMoveSS.calls k _ _ l0 1048576 t0 _ HR0.out HC0.out E_t0.out).mono ?_); rintro e w1 ⟨rfl, ⟨n1, rfl⟩⟩))
    go_ret
    exact ⟨rfl, pw_below_drewN HB.out n1⟩
  rw [if_neg c1] at h
  have c1b : decide (t0 < 0) = false := decide_eq_false c1
  clear c1
  obtain ⟨m1, e_m1, h⟩ := Option.bind_eq_some_iff.mp h
  have E_m1 := Aside0.mk e_m1
  clear e_m1
  obtain ⟨s1, e_s1, h⟩ := Option.bind_eq_some_iff.mp h
  have E_s1 := Aside0.mk e_s1
  clear e_s1
  obtain ⟨w0_, e_w0_, h⟩ := Option.bind_eq_some_iff.mp h
  have E_w0_ := Aside0.mk e_w0_
  clear e_w0_
  obtain ⟨x0, e_x0, h⟩ := Option.bind_eq_some_iff.mp h
  have E_x0 := Aside0.mk e_x0
  clear e_x0
  obtain ⟨x3, e_x3, h⟩ := Option.bind_eq_some_iff.mp h
  have E_x3 := Aside0.mk e_x3
  clear e_x3
  obtain ⟨g0, e_g0, h⟩ := Option.bind_eq_some_iff.mp h
  have E_g0 := Aside0.mk e_g0
  clear e_g0
  obtain ⟨b1, e_b1, h⟩ := Option.bind_eq_some_iff.mp h
  have E_b1 := Aside0.mk e_b1
  clear e_b1
  by_cases d_53 : b1 = true
  rotate_left
  · rw [if_neg d_53] at h
    cases h
  rw [if_pos d_53] at h
  subst d_53
  obtain ⟨m2, e_m2, h⟩ := Option.bind_eq_some_iff.mp h
  have E_m2 := Aside0.mk e_m2
  clear e_m2
  obtain ⟨b2, e_b2, h⟩ := Option.bind_eq_some_iff.mp h
  have E_b2 := Aside0.mk e_b2
  clear e_b2
  by_cases d_65 : b2 = true
  rotate_left
  · rw [if_neg d_65] at h
    cases h
  rw [if_pos d_65] at h
  subst d_65
  obtain ⟨s2, e_s2, h⟩ := Option.bind_eq_some_iff.mp h
  have E_s2 := Aside0.mk e_s2
  clear e_s2
  obtain ⟨b3, e_b3, h⟩ := Option.bind_eq_some_iff.mp h
  have E_b3 := Aside0.mk e_b3
  clear e_b3
  by_cases d_77 : b3 = true
  rotate_left
  · rw [if_neg d_77] at h
    cases h
  rw [if_pos d_77] at h
  subst d_77
  obtain ⟨k1, e_k1, h⟩ := Option.bind_eq_some_iff.mp h
  have E_k1 := Aside0.mk e_k1
  clear e_k1
  obtain ⟨p1, e_p1, h⟩ := Option.bind_eq_some_iff.mp h
  have E_p1 := Aside0.mk e_p1
  clear e_p1
  by_cases d_89 : p1.1 < 0
  · rw [if_pos d_89] at h
    cases h
  rw [if_neg d_89] at h
  have d_89b : decide (p1.1 < 0) = false := decide_eq_false d_89
  clear d_89
  obtain ⟨b4, e_b4, h⟩ := Option.bind_eq_some_iff.mp h
  have E_b4 := Aside0.mk e_b4
  clear e_b4
  by_cases d_98 : b4 = true
  rotate_left
  · rw [if_neg d_98] at h
    cases h
  rw [if_pos d_98] at h
  subst d_98
  obtain ⟨q1, e_q1, h⟩ := Option.bind_eq_some_iff.mp h
  have E_q1 := Aside0.mk e_q1
  clear e_q1
  obtain ⟨h1, e_h1, h⟩ := Option.bind_eq_some_iff.mp h
  have E_h1 := Aside0.mk e_h1
  clear e_h1
  by_cases d_110 : h1 < 0
  · rw [if_pos d_110] at h
    cases h
  rw [if_neg d_110] at h
  have d_110b : decide (h1 < 0) = false := decide_eq_false d_110
  clear d_110
  by_cases d_116 : h1 = q1.1
  rotate_left
  · rw [if_neg d_116] at h
    cases h
  rw [if_pos d_116] at h
  have d_116b : (h1 != q1.1) = false := bne_eq_false_iff_eq.mpr d_116
  clear d_116
  obtain ⟨m3, e_m3, h⟩ := Option.bind_eq_some_iff.mp h
  have E_m3 := Aside0.mk e_m3
  clear e_m3
  obtain ⟨s3, e_s3, h⟩ := Option.bind_eq_some_iff.mp h
  have E_s3 := Aside0.mk e_s3
  clear e_s3
  obtain ⟨h0, e_h0, h⟩ := Option.bind_eq_some_iff.mp h
  have E_h0 := Aside0.mk e_h0
  clear e_h0
  obtain ⟨b5, e_b5, h⟩ := Option.bind_eq_some_iff.mp h
  have E_b5 := Aside0.mk e_b5
  clear e_b5
  by_cases d_135 : b5 = true
  rotate_left
  · rw [if_neg d_135] at h
    cases h
  rw [if_pos d_135] at h
  subst d_135
  obtain ⟨h2, e_h2, h⟩ := Option.bind_eq_some_iff.mp h
  have E_h2 := Aside0.mk e_h2
  clear e_h2
  by_cases d_144 : h2 < 0
  · rw [if_pos d_144] at h
    cases h
  rw [if_neg d_144] at h
  have d_144b : decide (h2 < 0) = false := decide_eq_false d_144
  clear d_144
  by_cases d_150 : h2 = q1.1
  rotate_left
  · rw [if_neg d_150] at h
    cases h
  rw [if_pos d_150] at h
  have d_150b : (h2 != q1.1) = false := bne_eq_false_iff_eq.mpr d_150
  clear d_150
  clear h
  go_enter Try.func7, Try.ntmps7
  go_upto_region 7 with (first | (go_at_call 38; (with_reducible refine (laws_szMoveSS.calls k _ _ l0 1048576 t0 _ HR0.out HC0.out E_t0.out).mono ?_); rintro e w1 ⟨rfl, hd⟩; have nb_ := Aside0.mk (show Below w.heap.size w w1 from by obtain ⟨n_, e_⟩ := hd.out; rw [e_]; exact pw_below_drewN HB.out n_); clear HB; have HB := nb_; clear nb_ hd))
  go_upto_region 8 with (first | (go_at_call 40; refine (laws_toMoveSS.calls k _ _ l0 m1 _ (Kd.C_below HR0.out HB.out) HC0.out E_m1.out).mono ?_; rintro e w2 ⟨v_, rfl, ho, hb⟩; obtain ⟨A_m1, c_m1, rfl⟩ := Kd.R_slice (Kd.S_R ho); have Z_m1 := Aside0.mk (And.intro HB.out.size hb.size); have H_m1 := Aside0.mk (Kd.S_lower (Kd.S_mono (ok' := fun k_ => w1.heap.size ≤ k_ ∧ k_ < w2.heap.size) (Kd.S_bound ho) (fun k_ hk_ => ⟨hk_.2.1, hk_.2.2.1⟩)) HB.out.size); have nb_ := Aside0.mk (below_step (HB.out) hb); clear HB; have HB := nb_; clear nb_ ho hb) | (go_at_call 12; refine (laws_toIntS.calls k _ _ l3 s1 _ (Kd.C_below HR3.out HB.out) HC3.out E_s1.out).mono ?_; rintro e w3 ⟨v_, rfl, ho, hb⟩; have m0_ := Aside0.mk (Kd.S_below H_m1.out hb); clear H_m1; have H_m1 := m0_; clear m0_; obtain ⟨A_s1, c_s1, rfl⟩ := Kd.R_slice ho; have Z_s1 := Aside0.mk (And.intro HB.out.size hb.size); have H_s1 := Aside0.mk (Kd.R_lower (Kd.R_mono (ok' := fun k_ => w2.heap.size ≤ k_ ∧ k_ < w3.heap.size) (Kd.R_bound ho) (fun k_ hk_ => ⟨hk_.2.1, hk_.2.2.1⟩)) HB.out.size); have nb_ := Aside0.mk (below_step (HB.out) hb); clear HB; have HB := nb_; clear nb_ ho hb) | (go_at_call 39; refine (spec_Finish.calls k _ _ m1 a1 a2 _ _ s1 w0_ _ (Kd.S_reads' H_m1.out).2.2 (Kd.S_reads' H_m1.out).2.1 (Kd.R_reads' H_s1.out).2.2 (Kd.R_reads' H_s1.out).2.1 E_w0_.out).mono ?_; rintro e w4 ⟨v_, rfl, ho, hb⟩; have m0_ := Aside0.mk (Kd.S_below H_m1.out hb); have m1_ := Aside0.mk (Kd.R_below H_s1.out hb); clear H_m1 H_s1; have H_m1 := m0_; have H_s1 := m1_; clear m0_ m1_; obtain ⟨A_w0_, c_w0_, rfl⟩ := Kd.R_slice ho; have Z_w0_ := Aside0.mk (And.intro HB.out.size hb.size); have H_w0_ := Aside0.mk (Kd.R_lower (Kd.R_mono (ok' := fun k_ => w3.heap.size ≤ k_ ∧ k_ < w4.heap.size) (Kd.R_bound ho) (fun k_ hk_ => ⟨hk_.2.1, hk_.2.2.1⟩)) HB.out.size); have nb_ := Aside0.mk (below_step (HB.out) hb); clear HB; have HB := nb_; clear nb_ ho hb))
  clear H_m1
  clear H_s1
  go_upto_region 9 with (first | (go_at_call 40; refine (laws_toMoveSS.calls k _ _ l0 x0 _ (Kd.C_below HR0.out HB.out) HC0.out E_x0.out).mono ?_; rintro e w5 ⟨v_, rfl, ho, hb⟩; have m0_ := Aside0.mk (Kd.R_below H_w0_.out hb); clear H_w0_; have H_w0_ := m0_; clear m0_; obtain ⟨A_x0, c_x0, rfl⟩ := Kd.R_slice (Kd.S_R ho); have Z_x0 := Aside0.mk (And.intro HB.out.size hb.size); have H_x0 := Aside0.mk (Kd.S_lower (Kd.S_mono (ok' := fun k_ => w4.heap.size ≤ k_ ∧ k_ < w5.heap.size) (Kd.S_bound ho) (fun k_ hk_ => ⟨hk_.2.1, hk_.2.2.1⟩)) HB.out.size); have nb_ := Aside0.mk (below_step (HB.out) hb); clear HB; have HB := nb_; clear nb_ ho hb))
  go_upto_region 10 with (first | (go_at_call 12; refine (laws_toIntS.calls k _ _ l3 x3 _ (Kd.C_below HR3.out HB.out) HC3.out E_x3.out).mono ?_; rintro e w6 ⟨v_, rfl, ho, hb⟩; have m0_ := Aside0.mk (Kd.R_below H_w0_.out hb); have m1_ := Aside0.mk (Kd.S_below H_x0.out hb); clear H_w0_ H_x0; have H_w0_ := m0_; have H_x0 := m1_; clear m0_ m1_; obtain ⟨A_x3, c_x3, rfl⟩ := Kd.R_slice ho; have Z_x3 := Aside0.mk (And.intro HB.out.size hb.size); have H_x3 := Aside0.mk (Kd.R_lower (Kd.R_mono (ok' := fun k_ => w5.heap.size ≤ k_ ∧ k_ < w6.heap.size) (Kd.R_bound ho) (fun k_ hk_ => ⟨hk_.2.1, hk_.2.2.1⟩)) HB.out.size); have nb_ := Aside0.mk (below_step (HB.out) hb); clear HB; have HB := nb_; clear nb_ ho hb))
  go_upto_region 11 with (first | (go_at_call 41; refine (impl_Finish.calls k _ _ x0 a1 a2 _ _ x3 g0 _ (Kd.S_reads' H_x0.out).2.2 (Kd.S_reads' H_x0.out).2.1 (Kd.R_reads' H_x3.out).2.2 (Kd.R_reads' H_x3.out).2.1 E_g0.out).mono ?_; rintro e w7 ⟨v_, rfl, ho, hb⟩; have m0_ := Aside0.mk (Kd.R_below H_w0_.out hb); have m1_ := Aside0.mk (Kd.S_below H_x0.out hb); have m2_ := Aside0.mk (Kd.R_below H_x3.out hb); clear H_w0_ H_x0 H_x3; have H_w0_ := m0_; have H_x0 := m1_; have H_x3 := m2_; clear m0_ m1_ m2_; obtain ⟨A_g0, c_g0, rfl⟩ := Kd.R_slice ho; have Z_g0 := Aside0.mk (And.intro HB.out.size hb.size); have H_g0 := Aside0.mk (Kd.R_lower (Kd.R_mono (ok' := fun k_ => w6.heap.size ≤ k_ ∧ k_ < w7.heap.size) (Kd.R_bound ho) (fun k_ hk_ => ⟨hk_.2.1, hk_.2.2.1⟩)) HB.out.size); have nb_ := Aside0.mk (below_step (HB.out) hb); clear HB; have HB := nb_; clear nb_ ho hb))
  go_upto_region 13 with (first | (go_at_call 15; refine (laws_eqIntS.calls k _ _ g0 _ _ w0_ true _ (Kd.R_reads' H_g0.out).2.2 (Kd.R_reads' H_g0.out).2.1 (Kd.R_reads' H_w0_.out).2.2 (Kd.R_reads' H_w0_.out).2.1 E_b1.out).mono ?_; rintro e w8 ⟨rfl, hd⟩; have hb : Below w7.heap.size w7 w8 := (by obtain ⟨n_, e_⟩ := hd.out; rw [e_]; exact pw_below_drewN (Below.refl _ _) n_); have m0_ := Aside0.mk (Kd.R_below H_w0_.out hb); have m1_ := Aside0.mk (Kd.S_below H_x0.out hb); have m2_ := Aside0.mk (Kd.R_below H_x3.out hb); have m3_ := Aside0.mk (Kd.R_below H_g0.out hb); clear H_w0_ H_x0 H_x3 H_g0; have H_w0_ := m0_; have H_x0 := m1_; have H_x3 := m2_; have H_g0 := m3_; clear m0_ m1_ m2_ m3_; have z_w8 := Aside0.mk hb.size; have nb_ := Aside0.mk (below_step HB.out hb); clear HB; have HB := nb_; clear nb_ hb hd))
  go_upto_region 15 with (first | (go_at_call 40; refine (laws_toMoveSS.calls k _ _ l0 m2 _ (Kd.C_below HR0.out HB.out) HC0.out E_m2.out).mono ?_; rintro e w9 ⟨v_, rfl, ho, hb⟩; have m0_ := Aside0.mk (Kd.R_below H_w0_.out hb); have m1_ := Aside0.mk (Kd.S_below H_x0.out hb); have m2_ := Aside0.mk (Kd.R_below H_x3.out hb); have m3_ := Aside0.mk (Kd.R_below H_g0.out hb); clear H_w0_ H_x0 H_x3 H_g0; have H_w0_ := m0_; have H_x0 := m1_; have H_x3 := m2_; have H_g0 := m3_; clear m0_ m1_ m2_ m3_; obtain ⟨A_m2, c_m2, rfl⟩ := Kd.R_slice (Kd.S_R ho); have Z_m2 := Aside0.mk (And.intro HB.out.size hb.size); have H_m2 := Aside0.mk (Kd.S_lower (Kd.S_mono (ok' := fun k_ => w8.heap.size ≤ k_ ∧ k_ < w9.heap.size) (Kd.S_bound ho) (fun k_ hk_ => ⟨hk_.2.1, hk_.2.2.1⟩)) HB.out.size); have nb_ := Aside0.mk (below_step (HB.out) hb); clear HB; have HB := nb_; clear nb_ ho hb) | (go_at_call 42; refine (laws_eqMoveSS.calls k _ _ x0 _ _ m2 true _ (Kd.S_reads' H_x0.out).2.2 (Kd.S_reads' H_x0.out).2.1 (Kd.S_reads' H_m2.out).2.2 (Kd.S_reads' H_m2.out).2.1 E_b2.out).mono ?_; rintro e w10 ⟨rfl, hb⟩; have m0_ := Aside0.mk (Kd.R_below H_w0_.out hb); have m1_ := Aside0.mk (Kd.S_below H_x0.out hb); have m2_ := Aside0.mk (Kd.R_below H_x3.out hb); have m3_ := Aside0.mk (Kd.R_below H_g0.out hb); have m4_ := Aside0.mk (Kd.S_below H_m2.out hb); clear H_w0_ H_x0 H_x3 H_g0 H_m2; have H_w0_ := m0_; have H_x0 := m1_; have H_x3 := m2_; have H_g0 := m3_; have H_m2 := m4_; clear m0_ m1_ m2_ m3_ m4_; have z_w10 := Aside0.mk hb.size; have nb_ := Aside0.mk (below_step HB.out hb); clear HB; have HB := nb_; clear nb_ hb))
  clear H_m2
  go_upto_region 17 with (first | (go_at_call 12; refine (laws_toIntS.calls k _ _ l3 s2 _ (Kd.C_below HR3.out HB.out) HC3.out E_s2.out).mono ?_; rintro e w11 ⟨v_, rfl, ho, hb⟩; have m0_ := Aside0.mk (Kd.R_below H_w0_.out hb); have m1_ := Aside0.mk (Kd.S_below H_x0.out hb); have m2_ := Aside0.mk (Kd.R_below H_x3.out hb); have m3_ := Aside0.mk (Kd.R_below H_g0.out hb); clear H_w0_ H_x0 H_x3 H_g0; have H_w0_ := m0_; have H_x0 := m1_; have H_x3 := m2_; have H_g0 := m3_; clear m0_ m1_ m2_ m3_; obtain ⟨A_s2, c_s2, rfl⟩ := Kd.R_slice ho; have Z_s2 := Aside0.mk (And.intro HB.out.size hb.size); have H_s2 := Aside0.mk (Kd.R_lower (Kd.R_mono (ok' := fun k_ => w10.heap.size ≤ k_ ∧ k_ < w11.heap.size) (Kd.R_bound ho) (fun k_ hk_ => ⟨hk_.2.1, hk_.2.2.1⟩)) HB.out.size); have nb_ := Aside0.mk (below_step (HB.out) hb); clear HB; have HB := nb_; clear nb_ ho hb) | (go_at_call 15; refine (laws_eqIntS.calls k _ _ x3 _ _ s2 true _ (Kd.R_reads' H_x3.out).2.2 (Kd.R_reads' H_x3.out).2.1 (Kd.R_reads' H_s2.out).2.2 (Kd.R_reads' H_s2.out).2.1 E_b3.out).mono ?_; rintro e w12 ⟨rfl, hd⟩; have hb : Below w11.heap.size w11 w12 := (by obtain ⟨n_, e_⟩ := hd.out; rw [e_]; exact pw_below_drewN (Below.refl _ _) n_); have m0_ := Aside0.mk (Kd.R_below H_w0_.out hb); have m1_ := Aside0.mk (Kd.S_below H_x0.out hb); have m2_ := Aside0.mk (Kd.R_below H_x3.out hb); have m3_ := Aside0.mk (Kd.R_below H_g0.out hb); have m4_ := Aside0.mk (Kd.R_below H_s2.out hb); clear H_w0_ H_x0 H_x3 H_g0 H_s2; have H_w0_ := m0_; have H_x0 := m1_; have H_x3 := m2_; have H_g0 := m3_; have H_s2 := m4_; clear m0_ m1_ m2_ m3_ m4_; have z_w12 := Aside0.mk hb.size; have nb_ := Aside0.mk (below_step HB.out hb); clear HB; have HB := nb_; clear nb_ hb hd))
  clear H_s2
  go_upto_region 19 with (first | (go_at_call 43; refine (mkSS_calls k _ _ x0 1 k1 w _ HB.out H_x0.out E_k1.out).mono ?_; rintro e w13 ⟨rfl, hb, hk⟩; clear H_x0; have m0_ := Aside0.mk (Kd.R_kept H_w0_.out hk (fun k_ h1_ h2_ => by have := And.intro h1_ (And.intro h2_ (And.intro Z_w0_.out (And.intro Z_x0.out (And.intro Z_x3.out Z_g0.out)))); omega)); have m1_ := Aside0.mk (Kd.R_kept H_x3.out hk (fun k_ h1_ h2_ => by have := And.intro h1_ (And.intro h2_ (And.intro Z_w0_.out (And.intro Z_x0.out (And.intro Z_x3.out Z_g0.out)))); omega)); have m2_ := Aside0.mk (Kd.R_kept H_g0.out hk (fun k_ h1_ h2_ => by have := And.intro h1_ (And.intro h2_ (And.intro Z_w0_.out (And.intro Z_x0.out (And.intro Z_x3.out Z_g0.out)))); omega)); clear H_w0_ H_x3 H_g0; have H_w0_ := m0_; have H_x3 := m1_; have H_g0 := m2_; clear m0_ m1_ m2_; have z_w13 := Aside0.mk hk.1; clear HB; have HB := Aside0.mk hb; clear hb hk))
  go_upto_region 20 with (first | (go_at_call 17; refine (laws_markIntS.calls k _ _ x3 k1 p1.1 p1.2 w _ HB.out H_x3.out E_p1.out).mono ?_; rintro e w14 ⟨rfl, hr, hb, hk⟩; clear H_x3; have m0_ := Aside0.mk (Kd.R_kept H_w0_.out hk (fun k_ h1_ h2_ => by have := And.intro h1_ (And.intro h2_ (And.intro Z_w0_.out (And.intro Z_x0.out (And.intro Z_x3.out Z_g0.out)))); omega)); have m1_ := Aside0.mk (Kd.R_kept H_g0.out hk (fun k_ h1_ h2_ => by have := And.intro h1_ (And.intro h2_ (And.intro Z_w0_.out (And.intro Z_x0.out (And.intro Z_x3.out Z_g0.out)))); omega)); clear H_w0_ H_g0; have H_w0_ := m0_; have H_g0 := m1_; clear m0_ m1_; have H_y3 := Aside0.mk hr; have z_w14 := Aside0.mk hk.1; clear HB; have HB := Aside0.mk hb; clear hb hk hr))
  clear H_y3
  go_upto_region 22 with (first | (go_at_call 15; (try (refine gate_guard (by rfl) ?_; dsimp only)); refine (laws_eqIntS.calls k _ _ g0 _ _ w0_ true _ (Kd.R_reads' H_g0.out).2.2 (Kd.R_reads' H_g0.out).2.1 (Kd.R_reads' H_w0_.out).2.2 (Kd.R_reads' H_w0_.out).2.1 E_b4.out).mono ?_; rintro e w15 ⟨rfl, hd⟩; have hb : Below w14.heap.size w14 w15 := (by obtain ⟨n_, e_⟩ := hd.out; rw [e_]; exact pw_below_drewN (Below.refl _ _) n_); have m0_ := Aside0.mk (Kd.R_below H_w0_.out hb); have m1_ := Aside0.mk (Kd.R_below H_g0.out hb); clear H_w0_ H_g0; have H_w0_ := m0_; have H_g0 := m1_; clear m0_ m1_; have z_w15 := Aside0.mk hb.size; have nb_ := Aside0.mk (below_step HB.out hb); clear HB; have HB := nb_; clear nb_ hb hd))
  go_upto_region 24 with (first | (go_at_call 17; refine (laws_markIntS.calls k _ _ g0 1 q1.1 q1.2 w _ HB.out H_g0.out E_q1.out).mono ?_; rintro e w16 ⟨rfl, hr, hb, hk⟩; clear H_g0; have m0_ := Aside0.mk (Kd.R_kept H_w0_.out hk (fun k_ h1_ h2_ => by have := And.intro h1_ (And.intro h2_ (And.intro Z_w0_.out (And.intro Z_x0.out (And.intro Z_x3.out Z_g0.out)))); omega)); clear H_w0_; have H_w0_ := m0_; clear m0_; have H_g1 := Aside0.mk hr; have z_w16 := Aside0.mk hk.1; clear HB; have HB := Aside0.mk hb; clear hb hk hr))
  go_upto_region 26 with (first | (go_at_call 37; have hc_ := laws_heldIntS.calls k A_g0 c_g0 q1.2 1 h1 _ (Kd.R_reads' H_g1.out).2.2 (by have h1_ := (Kd.R_reads' H_g1.out).1; have h2_ := (Kd.R_reads' H_g1.out).2.1; omega) E_h1.out; rw [← (Kd.R_reads' H_g1.out).1] at hc_; refine (hc_).mono ?_; rintro e w17 ⟨rfl, hd⟩; have hb : Below w16.heap.size w16 w17 := (by obtain ⟨n_, e_⟩ := hd.out; rw [e_]; exact pw_below_drewN (Below.refl _ _) n_); have m0_ := Aside0.mk (Kd.R_below H_w0_.out hb); have m1_ := Aside0.mk (Kd.R_below H_g1.out hb); clear H_w0_ H_g1; have H_w0_ := m0_; have H_g1 := m1_; clear m0_ m1_; have z_w17 := Aside0.mk hb.size; have nb_ := Aside0.mk (below_step HB.out hb); clear HB; have HB := nb_; clear nb_ hb hd))
  go_upto_region 30 with (first | fail)
  go_upto_region 31 with (first | (go_at_call 40; refine (laws_toMoveSS.calls k _ _ l0 m3 _ (Kd.C_below HR0.out HB.out) HC0.out E_m3.out).mono ?_; rintro e w18 ⟨v_, rfl, ho, hb⟩; have m0_ := Aside0.mk (Kd.R_below H_w0_.out hb); have m1_ := Aside0.mk (Kd.R_below H_g1.out hb); clear H_w0_ H_g1; have H_w0_ := m0_; have H_g1 := m1_; clear m0_ m1_; obtain ⟨A_m3, c_m3, rfl⟩ := Kd.R_slice (Kd.S_R ho); have Z_m3 := Aside0.mk (And.intro HB.out.size hb.size); have H_m3 := Aside0.mk (Kd.S_lower (Kd.S_mono (ok' := fun k_ => w17.heap.size ≤ k_ ∧ k_ < w18.heap.size) (Kd.S_bound ho) (fun k_ hk_ => ⟨hk_.2.1, hk_.2.2.1⟩)) HB.out.size); have nb_ := Aside0.mk (below_step (HB.out) hb); clear HB; have HB := nb_; clear nb_ ho hb) | (go_at_call 12; refine (laws_toIntS.calls k _ _ l3 s3 _ (Kd.C_below HR3.out HB.out) HC3.out E_s3.out).mono ?_; rintro e w19 ⟨v_, rfl, ho, hb⟩; have m0_ := Aside0.mk (Kd.R_below H_w0_.out hb); have m1_ := Aside0.mk (Kd.R_below H_g1.out hb); have m2_ := Aside0.mk (Kd.S_below H_m3.out hb); clear H_w0_ H_g1 H_m3; have H_w0_ := m0_; have H_g1 := m1_; have H_m3 := m2_; clear m0_ m1_ m2_; obtain ⟨A_s3, c_s3, rfl⟩ := Kd.R_slice ho; have Z_s3 := Aside0.mk (And.intro HB.out.size hb.size); have H_s3 := Aside0.mk (Kd.R_lower (Kd.R_mono (ok' := fun k_ => w18.heap.size ≤ k_ ∧ k_ < w19.heap.size) (Kd.R_bound ho) (fun k_ hk_ => ⟨hk_.2.1, hk_.2.2.1⟩)) HB.out.size); have nb_ := Aside0.mk (below_step (HB.out) hb); clear HB; have HB := nb_; clear nb_ ho hb) | (go_at_call 41; refine (impl_Finish.calls k _ _ m3 a1 a2 _ _ s3 h0 _ (Kd.S_reads' H_m3.out).2.2 (Kd.S_reads' H_m3.out).2.1 (Kd.R_reads' H_s3.out).2.2 (Kd.R_reads' H_s3.out).2.1 E_h0.out).mono ?_; rintro e w20 ⟨v_, rfl, ho, hb⟩; have m0_ := Aside0.mk (Kd.R_below H_w0_.out hb); have m1_ := Aside0.mk (Kd.R_below H_g1.out hb); have m2_ := Aside0.mk (Kd.S_below H_m3.out hb); have m3_ := Aside0.mk (Kd.R_below H_s3.out hb); clear H_w0_ H_g1 H_m3 H_s3; have H_w0_ := m0_; have H_g1 := m1_; have H_m3 := m2_; have H_s3 := m3_; clear m0_ m1_ m2_ m3_; obtain ⟨A_h0, c_h0, rfl⟩ := Kd.R_slice ho; have Z_h0 := Aside0.mk (And.intro HB.out.size hb.size); have H_h0 := Aside0.mk (Kd.R_lower (Kd.R_mono (ok' := fun k_ => w19.heap.size ≤ k_ ∧ k_ < w20.heap.size) (Kd.R_bound ho) (fun k_ hk_ => ⟨hk_.2.1, hk_.2.2.1⟩)) HB.out.size); have nb_ := Aside0.mk (below_step (HB.out) hb); clear HB; have HB := nb_; clear nb_ ho hb))
  clear H_m3
  clear H_s3
  go_upto_region 33 with (first | (go_at_call 15; refine (laws_eqIntS.calls k _ _ h0 _ _ w0_ true _ (Kd.R_reads' H_h0.out).2.2 (Kd.R_reads' H_h0.out).2.1 (Kd.R_reads' H_w0_.out).2.2 (Kd.R_reads' H_w0_.out).2.1 E_b5.out).mono ?_; rintro e w21 ⟨rfl, hd⟩; have hb : Below w20.heap.size w20 w21 := (by obtain ⟨n_, e_⟩ := hd.out; rw [e_]; exact pw_below_drewN (Below.refl _ _) n_); have m0_ := Aside0.mk (Kd.R_below H_w0_.out hb); have m1_ := Aside0.mk (Kd.R_below H_g1.out hb); have m2_ := Aside0.mk (Kd.R_below H_h0.out hb); clear H_w0_ H_g1 H_h0; have H_w0_ := m0_; have H_g1 := m1_; have H_h0 := m2_; clear m0_ m1_ m2_; have z_w21 := Aside0.mk hb.size; have nb_ := Aside0.mk (below_step HB.out hb); clear HB; have HB := nb_; clear nb_ hb hd))
  go_upto_region 35 with (first | (go_at_call 37; have hc_ := laws_heldIntS.calls k A_g0 c_g0 q1.2 1 h2 _ (Kd.R_reads' H_g1.out).2.2 (by have h1_ := (Kd.R_reads' H_g1.out).1; have h2_ := (Kd.R_reads' H_g1.out).2.1; omega) E_h2.out; rw [← (Kd.R_reads' H_g1.out).1] at hc_; refine (hc_).mono ?_; rintro e w22 ⟨rfl, hd⟩; have hb : Below w21.heap.size w21 w22 := (by obtain ⟨n_, e_⟩ := hd.out; rw [e_]; exact pw_below_drewN (Below.refl _ _) n_); have m0_ := Aside0.mk (Kd.R_below H_w0_.out hb); have m1_ := Aside0.mk (Kd.R_below H_g1.out hb); have m2_ := Aside0.mk (Kd.R_below H_h0.out hb); clear H_w0_ H_g1 H_h0; have H_w0_ := m0_; have H_g1 := m1_; have H_h0 := m2_; clear m0_ m1_ m2_; have z_w22 := Aside0.mk hb.size; have nb_ := Aside0.mk (below_step HB.out hb); clear HB; have HB := nb_; clear nb_ hb hd))
  go_wp2
  go_ret
  exact ⟨rfl, HB.out⟩

end Go.Proofs.Ytpoblnigmfbnfac.PFnExactFinish
