/- Marks written into rows of rows, no two of which share a block: the walk of markMoveSS. -/
import Derived.Test.YtpoblnigmfbnfacPFnExactFinishx8
namespace Go.Proofs.Ytpoblnigmfbnfac.PFnExactFinish
open Go.RowKit Go.Proofs.YtpoblnigmfbnfacW.PrintWords Go.Proofs.YtpoblnigmfbnfacW.PrintLast Go.Proofs.YtpoblnigmfbnfacW.PrintMore
attribute [local go_sem] max2_int min2_int max_two min_two max_three min_three max_four min_four   -- for this text's walks alone
set_option linter.unusedVariables false
set_option linter.unusedSimpArgs false
def mkSS : Nat → List (List S92) → Int → Int → Option Int
  | 0, _, _, _ => none
  | k + 1, l, a, i => if i < (l.length : Int) then (if 0 ≤ i then ((laws_markMoveS.f k (l.getD i.toNat []) a).bind fun p => mkSS k (l.set i.toNat p.2) p.1 (wrap64 (i + 1))) else none) else some a
set_option maxHeartbeats 8000000 in
set_option maxRecDepth 100000 in
theorem mkSS_calls (k : Nat) (P0 : Nat → Prop) (u : Value) (l0 : List (List S92)) (a1 r : Int) (w0 w : World) (hB : Below w0.heap.size w0 w) (ho : Kd.S (Kd.slice 92 k92) 90 w w0.heap.size P0 u l0) (h : mkSS k l0 a1 0 = some r) :
    Calls Try.prog 43 #[u, .int .i64 a1] w fun e w' => e = .returned (.int .i64 r) ∧ Below w0.heap.size w0 w' ∧ Kept w w' P0 := by
  obtain ⟨A, c, rfl⟩ := Kd.R_slice (Kd.S_R ho)
  have HS0 := Aside0.mk (show Kd.S (Kd.slice 92 k92) 90 w w0.heap.size (fun k => P0 k ∨ w.heap.size ≤ k) (.slice A l0.length c) l0 from Kd.S_mono ho (fun _ hk => .inl hk))
  have HB0 := Aside0.mk hB
  have HK0 := Aside0.mk (Kept.refl w P0)
  have H' := Aside0.mk h
  clear hB ho h
  obtain ⟨N, hN⟩ : ∃ N, N = l0.length := ⟨_, rfl⟩
  rw [← hN] at HS0 ⊢
  have HL0 := Aside0.mk hN.symm
  clear hN
  go_enter Try.func43, Try.ntmps43
  go_wp2
  go_loopg [1, 5] k (fun kq v1 v5 wr => ∃ (a i : Int) (x : List (List S92)), v1 = .int .i64 a ∧ v5 = .int .i64 i ∧ Aside0 (mkSS kq x a i = some r) ∧ Aside0 (kq ≤ k) ∧ Aside0 (Kd.S (Kd.slice 92 k92) 90 wr w0.heap.size (fun k => P0 k ∨ w.heap.size ≤ k) (.slice A N c) x) ∧ Aside0 (x.length = N) ∧ Aside0 (Below w0.heap.size w0 wr) ∧ Aside0 (Kept w wr P0))
  case atStart => exact ⟨a1, 0, l0, rfl, rfl, H', ⟨Nat.le_refl _⟩, HS0, HL0, HB0, HK0⟩
  case round =>
    clear H' HS0 HL0 HB0 HK0
    obtain ⟨a, i, x, rfl, rfl, HA, HK1, HS, HL, HB, HK⟩ := hrel
    cases gk with
    | zero => exact absurd HA.out (by simp [mkSS])
    | succ k1 =>
      have H := HA.out
      clear HA
      simp only [mkSS] at H
      by_cases c6 : i < (x.length : Int)
      · rw [if_pos c6] at H
        have c6b0 : decide (i < (N : Int)) = true := decide_eq_true (by have := HL.out; omega)
        by_cases c7 : 0 ≤ i
        · rw [if_pos c7] at H
          obtain ⟨p, hp, H⟩ := Option.bind_eq_some_iff.mp H
          have H'' := Aside0.mk H
          have HP := Aside0.mk hp
          have c6n : i < (N : Int) := by have := HL.out; omega
          have HS' := HS.out
          rw [← HL.out] at HS'
          obtain ⟨g, co, eo, gb, gl, cl, HG⟩ := Kd.S_form HS' (by omega)
          injection eo with eo1 eo2 eo3
          subst eo1
          subst eo3
          clear HS' eo2 gb gl cl HG
          obtain ⟨oki, ce, hcl, hM, hcc, hoki, hH⟩ := Kd.S_lend HS.out [] i c7 c6n
          obtain ⟨vi, rfl, hri⟩ := hM
          have hx := hcc 0 _ rfl
          simp only [show ((Kd.slice 92 k92)).sz = 1 from rfl, Nat.mul_one, Nat.add_zero] at hx
          obtain ⟨Ai, ci, rfl⟩ := Kd.R_slice hri
          have HRI := Aside0.mk hri
          have HOK := Aside0.mk hoki
          have HH := Aside0.mk hH
          have c67 := Aside0.mk (And.intro c6n c7)
          have c7' := eq_true c7
          have c6' := eq_true c6n
          clear H hp c6 c7 c6n hcl hcc hri hoki hH
          go_wp2_with (first | (go_at_call 77; refine (laws_markMoveS.calls k1 oki _ (x.getD i.toNat []) a p.1 p.2 w0 _ HB.out HRI.out HP.out).mono ?_; rintro e w2 ⟨rfl, hr2, hb2, hk2⟩; have n0_ := Aside0.mk hr2; have n1_ := Aside0.mk hb2; have n2_ := Aside0.mk hk2; clear hr2 hb2 hk2; have HR2 := n0_; have HB2 := n1_; have HK2 := n2_; clear n0_ n1_ n2_))
          go_roundg k1
          case measure => have := HK1.out; omega
          case rel =>
            have q1 := Kd.H_widen HH.out
            have q2 := Kd.H_kept q1 HK2.out (fun k _ hn hk => hn (.inl hk))
            have q3 := Kd.H_back (okp := fun k => oki k ∨ wr.heap.size ≤ k) q2 (x' := p.2) ⟨_, rfl, HR2.out⟩ (fun k hk => by
              rcases hk with hk | hk
              · exact .inl hk
              · exact .inr ⟨.inr (Nat.le_trans HK.out.1 hk), hk⟩)
            exact ⟨p.1, wrap64 (i + 1), x.set i.toNat p.2, rfl, by first | rfl | (simp; done), H'', ⟨by have := HK1.out; omega⟩, ⟨q3⟩, ⟨by rw [List.length_set]; exact HL.out⟩, HB2, ⟨HK.out.then_ HK2.out (fun k hk => (HOK.out k hk).1)⟩⟩
        · rw [if_neg c7] at H
          exact absurd H (by simp)
      · rw [if_neg c6] at H
        have c6b0 : decide (i < (N : Int)) = false := decide_eq_false (by have := HL.out; omega)
        obtain rfl := Option.some.inj H
        clear c6 H
        go_wp2
        go_ret
        exact ⟨rfl, HB.out, HK.out⟩

end Go.Proofs.Ytpoblnigmfbnfac.PFnExactFinish
