-- Printed out of the translation, hand-written contracts beside it; checked by the kernel alone.
import Derived.Test.YtcpemdedmepfeadPFnExactNormalisex0
import Derived.Test.YtcpemdedmepfeadPFnExactNormalisex6
namespace Go.Proofs.Ytcpemdedmepfead.PFnExactNormalise
open Go.RowKit Go.Proofs.YtcpemdedmepfeadW.PrintWords Go.Proofs.YtcpemdedmepfeadW.PrintLast Go.Proofs.YtcpemdedmepfeadW.PrintMore
attribute [local go_sem] max2_int min2_int max_two min_two max_three min_three max_four min_four   -- for this text's walks alone
set_option linter.unusedVariables false
set_option linter.unusedSimpArgs false

/-! ### impl_Normalise_1: function 72 -/
/-- A list with a function done to each, from a place on. -/
def mapF (F : Nat → Int → Option Int) : Nat → List Int → List Int → Int → Option (List Int)
  | 0, _, _, _ => none
  | k + 1, x0, x3, x4 => if x4 < (x0.length : Int) then (if 0 ≤ x4 then (if x4 < (x3.length : Int) then ((F k (rd x0 x4)).bind fun t => (mapF F k x0 (x3.set (x4 : Int).toNat t) (wrap64 (x4 + 1)))) else (none)) else (none)) else (some x3)
theorem mapF_mono (F : Nat → Int → Option Int) (hF : ∀ x k, LeO (F k x) (F (k + 1) x)) : ∀ k, (∀ y0 y1 y2, LeO (mapF F k y0 y1 y2) (mapF F (k + 1) y0 y1 y2))
  | 0 => fun _ _ _ r h => by simp [mapF] at h
  | k + 1 => by
    have ih0 := mapF_mono F hF k
    intro y0 y1 y2
    unfold mapF
    repeat' first
    | (with_reducible exact ih0 _ _ _)
    | (with_reducible exact hF _ _)
    | (with_reducible exact LeO.refl _)
    | (with_reducible exact LeO.none _)
    | (with_reducible refine LeO.ite ?_ ?_)
    | (with_reducible refine LeO.bind ?_ (fun _ => ?_))
def sumF : Nat → List Int → Int → Int → Option Int
  | 0, _, _, _ => none
  | k + 1, l, s, i => if i < (l.length : Int) then (if 0 ≤ i then ((impl_Plus.f s (rd l i)).bind fun t => (sumF k l t (wrap64 (i + 1)))) else (none)) else (some s)
theorem sumF_mono : ∀ k, (∀ y0 y1 y2, LeO (sumF k y0 y1 y2) (sumF (k + 1) y0 y1 y2))
  | 0 => fun _ _ _ r h => by simp [sumF] at h
  | k + 1 => by
    have ih0 := sumF_mono k
    intro y0 y1 y2
    unfold sumF
    repeat' first
    | (with_reducible exact ih0 _ _ _)
    | (with_reducible exact LeO.refl _)
    | (with_reducible exact LeO.none _)
    | (with_reducible refine LeO.ite ?_ ?_)
    | (with_reducible refine LeO.bind ?_ (fun _ => ?_))
def sqF : Nat → List Int → Int → Int → Int → Option Int
  | 0, _, _, _, _ => none
  | k + 1, l, m, s, i => if i < (l.length : Int) then (if 0 ≤ i then ((impl_Minus.f (rd l i) m).bind fun d => ((impl_Times.f d d).bind fun e => ((impl_Plus.f s e).bind fun t => (sqF k l m t (wrap64 (i + 1)))))) else (none)) else (some s)
theorem sqF_mono : ∀ k, (∀ y0 y1 y2 y3, LeO (sqF k y0 y1 y2 y3) (sqF (k + 1) y0 y1 y2 y3))
  | 0 => fun _ _ _ _ r h => by simp [sqF] at h
  | k + 1 => by
    have ih0 := sqF_mono k
    intro y0 y1 y2 y3
    unfold sqF
    repeat' first
    | (with_reducible exact ih0 _ _ _ _)
    | (with_reducible exact LeO.refl _)
    | (with_reducible exact LeO.none _)
    | (with_reducible refine LeO.ite ?_ ?_)
    | (with_reducible refine LeO.bind ?_ (fun _ => ?_))
def nrmF (m b : Int) (_ : Nat) (x : Int) : Option Int := (impl_Minus.f x m).bind fun d => impl_Times.f d b
def impl_Normalise_1.f (k : Nat) (l0 : List Int) (a1 : Int) : Option (List Int) := if l0.length ≤ 35184372088832 then ((sumF k l0 0 0).bind fun m0 => ((impl_Over.f k m0 (l0.length : Int)).bind fun m => ((sqF k l0 m 0 0).bind fun s => ((impl_Over.f k s (l0.length : Int)).bind fun v => ((impl_Mod.f a1).bind fun c => ((impl_Plus.f v c).bind fun u => ((impl_Inverse.f k u).bind fun b => (mapF (nrmF m b) k l0 (List.replicate l0.length 0) 0)))))))) else none
theorem impl_Normalise_1.mono : ∀ (a0 : List Int) (a1 : Int) k, LeO (impl_Normalise_1.f k a0 a1) (impl_Normalise_1.f (k + 1) a0 a1) := by
  intro a0 a1 k
  unfold impl_Normalise_1.f
  repeat' first
      | (with_reducible exact sumF_mono _ _ _ _)
      | (with_reducible exact sqF_mono _ _ _ _ _)
      | (with_reducible exact impl_Over.mono _ _ _)
      | (with_reducible exact impl_Inverse.mono _ _)
      | (with_reducible exact mapF_mono _ (fun _ _ => LeO.refl _) _ _ _ _)
      | (with_reducible exact LeO.refl _)
      | (with_reducible exact LeO.none _)
      | (with_reducible refine LeO.ite ?_ ?_)
      | (with_reducible refine LeO.bind ?_ (fun _ => ?_))
def impl_Normalise_1.Cap (w : World) (a1 : Int) (q1 : Nat) : Prop := w.cell? ⟨q1, 0, none⟩ = some (.int .i64 a1)
theorem impl_Normalise_1.Cap.below {w w' : World} {a1 : Int} {q1 : Nat} (hc : impl_Normalise_1.Cap w a1 q1) (h : Below w.heap.size w w') : impl_Normalise_1.Cap w' a1 q1 := by
  have h1 : w.cell? ⟨q1, 0, none⟩ = some (.int .i64 a1) := hc
  exact (h.cell (World.block_lt_of_cell? w _ h1)).trans h1

set_option maxHeartbeats 8000000 in
set_option maxRecDepth 100000 in
theorem mapFc_calls (F : Nat → Int → Option Int) (g : Nat) (p q : Addr) (eg : ∀ args w, (callFunc g args).run Try.prog w = .ok (.enter g args) w) (k : Nat) (A0 : Option Addr) (c0 : Nat) (l0 : List Int) (r : List Int) (w : World) (hF : ∀ k x r W, Below w.heap.size w W → F k x = some r → Calls Try.prog g #[.int .i64 x, .pointer (some p), .pointer (some q)] W fun e w' => e = .returned (.int .i64 r) ∧ Drawn0 W w') (hr0 : Kd.C (Kd.int .i64) w A0 l0.length l0) (hc0 : l0.length ≤ c0) (hl : l0.length ≤ 35184372088832) (h : mapF F k l0 (List.replicate l0.length 0) 0 = some r) :
    Calls Try.prog 79 #[.slice A0 l0.length c0, .func (.func g) #[] #[.pointer (some p), .pointer (some q)]] w fun e w' => ∃ v0_ : Value, e = .returned (v0_) ∧ Kd.R (Kd.int .i64) 3 w' w.heap.size (fun _ => True) v0_ r ∧ Below w.heap.size w w' := by
  have HF := Aside0.mk hF
  have HR0 := Aside0.mk hr0
  have HC0 := Aside0.mk hc0
  clear hr0 hc0 hF
  have HB := Aside0.mk (Below.refl w.heap.size w)
  have c2b1 : decide (0 ≤ (l0.length : Int)) = true := decide_eq_true (by omega)
  have c3b1 : decide (((l0.length : Int) : Int).toNat ≤ 35184372088832) = true := decide_eq_true (by omega)
  clear hl
  obtain ⟨y118, hy118⟩ : ∃ y_ : List Int, y_ = (List.replicate ((l0.length : Int) : Int).toNat 0) := ⟨_, rfl⟩
  have H : (mapF F k l0 y118 0) = some r := by rw [hy118, Int.toNat_natCast]; exact h
  clear h
  have Ny118 := Aside0.mk hy118
  clear hy118
  have H' := Aside0.mk H
  clear H
  go_enter Try.func79, Try.ntmps79
  go_wp2_with (first | ((with_reducible refine gate_dst (N := 10) rfl ?_); refine Kd.R_make (Kd.int .i64) _ 3 rfl (N := 10) rfl 29 _ _ rfl (l0.length : Int) rfl rfl Try.underlying29 (.int .i64 0) 8 info3 rfl (by decide) (by omega) 0 (ok := fun _ => True) (okp := fun _ => True) rfl (fun _ hk => hk) trivial (of_decide_eq_true (by first | (with_reducible assumption) | assumption)) (Nat.le_trans (Nat.mul_le_mul_right _ (of_decide_eq_true (by first | (with_reducible assumption) | assumption) : (l0.length : Int).toNat ≤ 35184372088832)) (by omega)) (Below.refl _ _) (Nat.le_refl _) ?_; intro v119 w4 ho5 hb hg_ hnew_; clear hg_ hnew_; (first | rw [← Ny118.out] at ho5 | (simp only [Int.reduceToNat] at ho5; rw [← Ny118.out] at ho5)); have n0_ := Aside0.mk (Kd.R_lower ho5 (below_size (by repeat (first | (with_reducible first | exact HB.out | apply below_alloc | apply pw_below_drewN | apply below_drew1) | exact HB.out)))); have n1_ := Aside0.mk (below_step (by repeat (first | (with_reducible first | exact HB.out | apply below_alloc | apply pw_below_drewN | apply below_drew1) | exact HB.out)) hb); clear HB; have HO120 := n0_; have HB := n1_; clear n0_ n1_; clear hb ho5))
  go_loopg [13] k (fun kq v13 w' => ∃ (x3_1 : List Int) (x4_1 : Int), v13 = .int .i64 x4_1 ∧ Aside0 (mapF F kq l0 x3_1 x4_1 = some r) ∧ Aside0 (kq ≤ k) ∧ Aside0 (Kd.R (Kd.int .i64) 3 w' w.heap.size (fun _ => True) v119 x3_1) ∧ Aside0 (Below w.heap.size w w'))
  case atStart => exact ⟨(y118), (0), (by first | rfl | (simp; done) | (simp [*]; done)), H', ⟨Nat.le_refl _⟩, ⟨by (with_reducible repeat (first | apply Kd.R_alloc | apply Kd.R_drewN | apply Kd.R_drew)); exact HO120.out⟩, ⟨by repeat (first | (with_reducible first | exact HB.out | apply below_alloc | apply pw_below_drewN | apply below_drew1) | exact HB.out)⟩⟩
  case round =>
    clear H'
    try clear c2b1
    try clear c3b1
    obtain ⟨x3_1, x4_1, rfl, HA, HK1, HO_3, HB⟩ := hrel
    cases gk with
    | zero => exact absurd HA.out (by simp [mapF])
    | succ k1 =>
      have H := HA.out
      clear HA
      simp only [mapF] at H
      by_cases c6 : x4_1 < (l0.length : Int)
      · rw [if_pos c6] at H
        have c6b0 : decide (x4_1 < (l0.length : Int)) = true := decide_eq_true c6
        clear c6
        by_cases c7 : 0 ≤ x4_1
        · rw [if_pos c7] at H
          have c7b0 : decide (0 ≤ x4_1) = true := decide_eq_true c7
          clear c7
          by_cases c8 : x4_1 < (x3_1.length : Int)
          · rw [if_pos c8] at H
            have c8b0 : decide (x4_1 < (x3_1.length : Int)) = true := decide_eq_true c8
            clear c8
            obtain ⟨t9, A90, H⟩ := Option.bind_eq_some_iff.mp H
            replace H : mapF F k1 l0 (x3_1.set (x4_1 : Int).toNat t9) (wrap64 (x4_1 + 1)) = some r := H
            have A9 := Aside0.mk A90
            clear A90
            obtain ⟨y122, hy122⟩ : ∃ y_ : List Int, y_ = (x3_1.set (x4_1 : Int).toNat t9) := ⟨_, rfl⟩
            replace H : (mapF F k1 l0 y122 (wrap64 (x4_1 + 1))) = some r := by rw [hy122]; exact H
            have Ny122 := Aside0.mk hy122
            clear hy122
            have H' := Aside0.mk H
            clear H
            have p121 : 0 ≤ (x4_1 : Int) := of_decide_eq_true (by first | (with_reducible assumption) | assumption)
            have q121 : x4_1 < (l0.length : Int) := of_decide_eq_true (by first | (with_reducible assumption) | assumption)
            obtain ⟨ad121, e121, hx121_0⟩ := Kd.at_int HR0.out x4_1 p121 q121
            cases e121
            replace hx121_0 := (HB.out.cell (World.block_lt_of_cell? w _ hx121_0)).trans hx121_0
            replace p121 := eq_true p121
            replace q121 := eq_true q121
            have p9 : 0 ≤ (x4_1 : Int) := of_decide_eq_true (by first | (with_reducible assumption) | assumption)
            have q9 : (x4_1 : Int) < ((x3_1.length : Int) : Int) := of_decide_eq_true (by first | (with_reducible assumption) | assumption)
            obtain ⟨go9, co9, eo9, gb9, gl9, cl9, HG9⟩ := Kd.R_form HO_3.out (by omega)
            (first | cases eo9 | (injection eo9 with ea_ en_ ec_; (first | subst ea_ | (injection ea_ with ea_; subst ea_)); subst ec_; clear en_))
            have GB9 := Aside0.mk gb9
            have GG9 := Aside0.mk HG9
            clear gb9 gl9 HG9
            go_wp2_with (first | ((with_reducible refine (HF.out k1 (rd l0 x4_1) t9 _ HB.out A9.out).mono ?_); rintro e w' ⟨rfl, ⟨nd, rfl⟩⟩; (have n0_ := Aside0.mk (Kd.R_drewN HO_3.out nd); have n1_ := Aside0.mk (pw_below_drewN HB.out nd); clear HO_3 HB; have HO_3 := n0_; have HB := n1_; clear n0_ n1_); (obtain ⟨hx9_0, hf9_0⟩ := Kd.R_celln 0 HO_3.out (x4_1 : Int) p9 q9); replace p9 := eq_true p9; replace q9 := eq_true q9; have HP10 := Kd.R_putg HO_3.out (x4_1 : Int) t9) | ((with_reducible refine gate_store (t := 3) (p := 23) rfl ?_); refine store_event (t := 3) (p := 23) (v := ?vo_w11) (w1 := (World.setCell (World.drewN wr nd) ⟨go9, (x4_1 : Int).toNat, none⟩ (.int .i64 t9))) ?hg ?ho ?hn ?hr ?_; (case ho => rfl); (case hg => rfl); (case hn => rfl); (case hr => first | (go_simp; done) | (go_simp; rfl)); intro w11 hw; have hp_ : Kd.R (Kd.int .i64) 3 w11 w.heap.size (fun _ => True) (.slice (some ⟨go9, 0, none⟩) x3_1.length co9) y122 := (by rw [hw, Ny122.out]; exact HP10.1); clear HP10; have n0_ := Aside0.mk (hp_); have n1_ := Aside0.mk ((by rw [hw]; exact below_set (HB.out) GB9.out : Below w.heap.size w w11)); clear HO_3; clear HB; have HO_3 := n0_; have HB := n1_; clear n0_ n1_; clear hw hp_))
            go_roundg k1
            case measure => have := HK1.out; omega
            case rel => exact ⟨(y122), (wrap64 (x4_1 + 1)), (by first | rfl | (simp; done) | (simp [*]; done)), H', ⟨by have := HK1.out; omega⟩, ⟨by (with_reducible repeat (first | apply Kd.R_alloc | apply Kd.R_drewN | apply Kd.R_drew)); exact HO_3.out⟩, ⟨by repeat (first | (with_reducible first | exact HB.out | apply below_alloc | apply pw_below_drewN | apply below_drew1) | exact HB.out)⟩⟩
          · rw [if_neg c8] at H
            exact absurd H (by simp)
        · rw [if_neg c7] at H
          exact absurd H (by simp)
      · rw [if_neg c6] at H
        have c6b0 : decide (x4_1 < (l0.length : Int)) = false := decide_eq_false c6
        clear c6
        obtain rfl := Option.some.inj H
        go_wp2
        go_ret
        exact ⟨_, by first | rfl | (simp [*]; done), by (with_reducible repeat (first | apply Kd.R_alloc | apply Kd.R_drewN | apply Kd.R_drew)); exact HO_3.out, by repeat (first | (with_reducible first | exact HB.out | apply below_alloc | apply pw_below_drewN | apply below_drew1) | exact HB.out)⟩
theorem blk_put1 {W : World} {g : Nat} {a : Value} (h : W.heap[g]? = some (.cells #[a] 3 (0, 0))) (v : Value) : (W.setCell ⟨g, 0, none⟩ v).heap[g]? = some (.cells #[v] 3 (0, 0)) := blk_put h 0 v rfl
theorem blk_far1 {W : World} {g d : Nat} {a : Value} (h : W.heap[g]? = some (.cells #[a] 3 (0, 0))) (hd : g < d) (v : Value) : (W.setCell ⟨d, 0, none⟩ v).heap[g]? = some (.cells #[a] 3 (0, 0)) := blk_far h (Nat.ne_of_lt hd) v
set_option maxHeartbeats 4000000 in
theorem nrm_c (m b x r : Int) (p q : Nat) (W : World) (k : Nat) (hm : W.heap[p]? = some (.cells #[.int .i64 m] 3 (0, 0))) (hb : W.heap[q]? = some (.cells #[.int .i64 b] 3 (0, 0))) (h : nrmF m b k x = some r) :
    Calls Try.prog 80 #[.int .i64 x, .pointer (some ⟨p, 0, none⟩), .pointer (some ⟨q, 0, none⟩)] W fun e w' => e = .returned (.int .i64 r) ∧ Drawn0 W w' := by
  obtain ⟨d, h1, h2⟩ := Option.bind_eq_some_iff.mp h
  have H1 := Aside0.mk h1
  have H2 := Aside0.mk h2
  clear h h1 h2
  have k1 : W.cell? ⟨p, 0, none⟩ = some (.int .i64 m) := (blk_cell hm 0).trans rfl
  have k2 : W.cell? ⟨q, 0, none⟩ = some (.int .i64 b) := (blk_cell hb 0).trans rfl
  clear hm hb
  go_enter Try.func80, Try.ntmps80
  go_upto_region 1 with (fail)
  go_quiet ((first | (go_at_call 75; exact Calls.quiet_of ((impl_Minus.calls x m d _ H1.out).mono (fun _ _ h => ⟨h.1, h.2.out⟩))) | (go_at_call 76; exact Calls.quiet_of ((impl_Times.calls d b r _ H2.out).mono (fun _ _ h => ⟨h.1, h.2.out⟩)))))
  go_wp2
  go_ret
  exact ⟨rfl, ⟨_, rfl⟩⟩
theorem nrm_eg : ∀ args w, (callFunc 80 args).run Try.prog w = .ok (.enter 80 args) w := fun _ _ => by kernel_rfl
set_option maxHeartbeats 8000000 in
set_option maxRecDepth 100000 in
theorem nrm_walk (k : Nat) (A0 : Option Addr) (c0 : Nat) (l0 : List Int) (low m0 m s v c u b : Int) (ql : Nat) (r : List Int) (w : World) (hr0 : Kd.C (Kd.int .i64) w A0 l0.length l0) (hc0 : l0.length ≤ c0) (hq : w.cell? ⟨ql, 0, none⟩ = some (.int .i64 low))
    (hl : l0.length ≤ 35184372088832) (h1 : sumF k l0 0 0 = some m0) (h2 : impl_Over.f k m0 (l0.length : Int) = some m) (h3 : sqF k l0 m 0 0 = some s) (h4 : impl_Over.f k s (l0.length : Int) = some v) (h5 : impl_Mod.f low = some c) (h6 : impl_Plus.f v c = some u) (h7 : impl_Inverse.f k u = some b) (h8 : mapF (nrmF m b) k l0 (List.replicate l0.length 0) 0 = some r) :
    Calls Try.prog 72 #[.slice A0 l0.length c0, .pointer (some ⟨ql, 0, none⟩)] w fun e w' => ∃ v0_ : Value, e = .returned (v0_) ∧ Kd.R (Kd.int .i64) 3 w' w.heap.size (fun _ => True) v0_ r ∧ Below w.heap.size w w' := by
  have HR := Aside0.mk (And.intro hr0 (And.intro hc0 (And.intro hq hl)))
  have H1 := Aside0.mk h1
  have H2 := Aside0.mk (And.intro h2 (And.intro h3 (And.intro h4 (And.intro h5 (And.intro h6 (And.intro h7 h8))))))
  clear hr0 hc0 hq hl h1 h2 h3 h4 h5 h6 h7 h8
  have hmf : ∀ (fn : Fn) (first cap : Array Value) (w : World), (Instr.makeFunc fn first cap).run Try.prog w = .ok (.func fn first cap) w := fun _ _ _ _ => rfl
  go_enter Try.func72, Try.ntmps72
  go_wp2
  have BK0 := Aside0.mk (heap_alloc_new w (.cells #[.int .i64 0] 3))
  go_loopg [14] k (fun kq v14 wr => ∃ (i acc : Int), v14 = .int .i64 i ∧ Aside0 (sumF kq l0 acc i = some m0) ∧ Aside0 (kq ≤ k) ∧ Aside0 (wr.heap[w.heap.size]? = some (.cells #[.int .i64 acc] 3 (0, 0))) ∧ Aside0 (Below w.heap.size w wr))
  case atStart => exact ⟨0, 0, rfl, H1, ⟨Nat.le_refl _⟩, BK0, ⟨below_alloc (Below.refl _ _) _⟩⟩
  case round =>
    clear H1 BK0
    obtain ⟨i, acc, rfl, HA, HK1, BK, HB⟩ := hrel
    cases gk with
    | zero => exact absurd HA.out (by simp [sumF])
    | succ k1 =>
      have H := HA.out
      clear HA
      simp only [sumF] at H
      have kc := (blk_cell BK.out 0).trans (show (#[Value.int .i64 acc] : Array Value)[0]? = some (.int .i64 acc) from rfl)
      have kf := blk_frozen BK.out 0
      by_cases c6 : i < (l0.length : Int)
      · rw [if_pos c6] at H
        have c6b0 : decide (i < (l0.length : Int)) = true := decide_eq_true c6
        by_cases c7 : 0 ≤ i
        · rw [if_pos c7] at H
          obtain ⟨t9, A90, H⟩ := Option.bind_eq_some_iff.mp H
          have A9 := Aside0.mk A90
          have H' := Aside0.mk H
          obtain ⟨ad, e1, hx0⟩ := Kd.at_int HR.out.1 i c7 c6
          cases e1
          have hx := (HB.out.cell (World.block_lt_of_cell? w _ hx0)).trans hx0
          have c7' := eq_true c7
          have c6' := eq_true c6
          clear A90 H hx0 c6 c7
          go_wp2_with (first | (go_at_call 73; (with_reducible refine (impl_Plus.calls acc (rd l0 i) t9 _ A9.out).mono ?_); rintro e w' ⟨rfl, ⟨nd, rfl⟩⟩))
          go_roundg k1
          case measure => have := HK1.out; omega
          case rel => exact ⟨wrap64 (i + 1), t9, by first | rfl | (simp; done), H', ⟨by have := HK1.out; omega⟩, ⟨blk_put (blk_drewN BK.out nd) 0 _ rfl⟩, ⟨below_set (pw_below_drewN HB.out nd) (Nat.le_refl _)⟩⟩
        · rw [if_neg c7] at H
          exact absurd H (by simp)
      · rw [if_neg c6] at H
        have c6b0 : decide (i < (l0.length : Int)) = false := decide_eq_false c6
        obtain rfl := Option.some.inj H
        clear c6 H
        go_wp2_with (first | (go_at_call 74; (with_reducible refine (impl_Over.calls k acc (l0.length : Int) m _ H2.out.1).mono ?_); rintro e w' ⟨rfl, ⟨nd, rfl⟩⟩))
        have BK1 := Aside0.mk (show ((wr.drewN nd).setCell ⟨w.heap.size, 0, none⟩ (.int .i64 m)).heap[w.heap.size]? = some (.cells #[.int .i64 m] 3 (0, 0)) from blk_put (blk_drewN BK.out nd) 0 _ rfl)
        have HB1 := Aside0.mk (show Below w.heap.size w ((wr.drewN nd).setCell ⟨w.heap.size, 0, none⟩ (.int .i64 m)) from below_set (pw_below_drewN HB.out nd) (Nat.le_refl _))
        clear kc kf BK HB
        obtain ⟨W2, hW2⟩ : ∃ W2 : World, W2 = ((wr.drewN nd).setCell ⟨w.heap.size, 0, none⟩ (.int .i64 m)) := ⟨_, rfl⟩
        rw [← hW2] at BK1 HB1 ⊢
        clear hW2
        have HQ := Aside0.mk H2.out.2.1
        go_loopg [5, 28] k (fun kq v5 v28 ws => ∃ (i2 acc2 : Int), v5 = .int .i64 acc2 ∧ v28 = .int .i64 i2 ∧ Aside0 (sqF kq l0 m acc2 i2 = some s) ∧ Aside0 (kq ≤ k) ∧ Aside0 (ws.heap[w.heap.size]? = some (.cells #[.int .i64 m] 3 (0, 0))) ∧ Aside0 (Below w.heap.size w ws))
        case atStart => exact ⟨0, 0, rfl, rfl, HQ, ⟨Nat.le_refl _⟩, BK1, HB1⟩
        case round =>
          clear HQ BK1 HB1
          obtain ⟨i2, acc2, rfl, rfl, HA, HK2, BK, HB⟩ := hrel
          cases gk with
          | zero => exact absurd HA.out (by simp [sqF])
          | succ k2 =>
            have H := HA.out
            clear HA
            simp only [sqF] at H
            have kc := (blk_cell BK.out 0).trans (show (#[Value.int .i64 m] : Array Value)[0]? = some (.int .i64 m) from rfl)
            have kf := blk_frozen BK.out 0
            by_cases c6 : i2 < (l0.length : Int)
            · rw [if_pos c6] at H
              have c6b0 : decide (i2 < (l0.length : Int)) = true := decide_eq_true c6
              by_cases c7 : 0 ≤ i2
              · rw [if_pos c7] at H
                obtain ⟨d9, A90, H⟩ := Option.bind_eq_some_iff.mp H
                obtain ⟨e9, A91, H⟩ := Option.bind_eq_some_iff.mp H
                obtain ⟨t9, A92, H⟩ := Option.bind_eq_some_iff.mp H
                have A9 := Aside0.mk (And.intro A90 (And.intro A91 A92))
                have H' := Aside0.mk H
                obtain ⟨ad, e1, hx0⟩ := Kd.at_int HR.out.1 i2 c7 c6
                cases e1
                have hx := (HB.out.cell (World.block_lt_of_cell? w _ hx0)).trans hx0
                have c7' := eq_true c7
                have c6' := eq_true c6
                clear A90 A91 A92 H hx0 c6 c7
                go_wp2_with (first | (go_at_call 75; (with_reducible refine (impl_Minus.calls (rd l0 i2) m d9 _ A9.out.1).mono ?_); rintro e w' ⟨rfl, ⟨nd1, rfl⟩⟩) | (go_at_call 76; (with_reducible refine (impl_Times.calls d9 d9 e9 _ A9.out.2.1).mono ?_); rintro e w' ⟨rfl, ⟨nd2, rfl⟩⟩) | (go_at_call 73; (with_reducible refine (impl_Plus.calls acc2 e9 t9 _ A9.out.2.2).mono ?_); rintro e w' ⟨rfl, ⟨nd3, rfl⟩⟩))
                go_roundg k2
                case measure => have := HK2.out; omega
                case rel => exact ⟨wrap64 (i2 + 1), t9, rfl, by first | rfl | (simp; done), H', ⟨by have := HK2.out; omega⟩, ⟨by repeat (first | exact BK.out | apply blk_drewN)⟩, ⟨by repeat (first | exact HB.out | apply pw_below_drewN)⟩⟩
              · rw [if_neg c7] at H
                exact absurd H (by simp)
            · rw [if_neg c6] at H
              have c6b0 : decide (i2 < (l0.length : Int)) = false := decide_eq_false c6
              obtain rfl := Option.some.inj H
              clear c6 H
              have kq := (HB.out.cell (World.block_lt_of_cell? w _ HR.out.2.2.1)).trans HR.out.2.2.1
              clear kc kf
              go_upto_region 14 with (fail)
              go_region_held3 (fun w' => w'.cell? ⟨ql, 0, none⟩ = some (.int .i64 low)) (first | exact kq | assumption | go_keep | exact ((below_set HB.out (Nat.le_of_lt KG.out)).cell (World.block_lt_of_cell? w _ HR.out.2.2.1)).trans HR.out.2.2.1) (first | (go_at_call 74; (with_reducible refine (impl_Over.calls k acc2 (l0.length : Int) v _ H2.out.2.2.1).mono ?_); rintro e w1 ⟨rfl, ⟨n_, e_⟩⟩; (first | (have kz_ := Aside0.mk (blk_drewN KZ.out n_); rw [← e_] at kz_; clear KZ; have KZ := kz_; clear kz_) | (have kz_ := Aside0.mk (blk_drewN (heap_alloc_new wr (.cells #[.int .i64 0] 3)) n_); rw [← e_] at kz_; have KZ := kz_; have KG := Aside0.mk (show w.heap.size < wr.heap.size from blk_lt BK.out); clear kz_) | (have kz_ := Aside0.mk (blk_drewN (blk_drew (heap_alloc_new wr (.cells #[.int .i64 0] 3))) n_); rw [← e_] at kz_; have KZ := kz_; have KG := Aside0.mk (show w.heap.size < wr.heap.size from blk_lt BK.out); clear kz_) | skip); have bk_ := Aside0.mk (show w1.heap[w.heap.size]? = some (.cells #[.int .i64 m] 3 (0, 0)) from by rw [e_]; (with_reducible repeat (first | refine blk_drewN ?_ _ | refine blk_drew ?_ | refine blk_alloc ?_ _)); exact BK.out); have hb_ := Aside0.mk (show Below w.heap.size w w1 from by rw [e_]; exact (by repeat (first | (with_reducible first | exact HB.out | apply below_alloc | apply pw_below_drewN | apply below_drew1) | exact HB.out))); clear BK HB; have BK := bk_; have HB := hb_; clear bk_ hb_ e_; (try (have z_0 := (blk_cell KZ.out 0).trans (show (#[.int .i64 0] : Array Value)[0]? = some (.int .i64 0) from rfl); have z_1 := blk_frozen KZ.out 0)); have kq_ := (HB.out.cell (World.block_lt_of_cell? w _ HR.out.2.2.1)).trans HR.out.2.2.1) | (go_at_call 78; (with_reducible refine (impl_Mod.calls low c _ H2.out.2.2.2.1).mono ?_); rintro e w2 ⟨rfl, ⟨n_, e_⟩⟩; (first | (have kz_ := Aside0.mk (blk_drewN KZ.out n_); rw [← e_] at kz_; clear KZ; have KZ := kz_; clear kz_) | (have kz_ := Aside0.mk (blk_drewN (heap_alloc_new w1 (.cells #[.int .i64 0] 3)) n_); rw [← e_] at kz_; have KZ := kz_; have KG := Aside0.mk (show w.heap.size < w1.heap.size from blk_lt BK.out); clear kz_) | skip); have bk_ := Aside0.mk (show w2.heap[w.heap.size]? = some (.cells #[.int .i64 m] 3 (0, 0)) from by rw [e_]; (with_reducible repeat (first | refine blk_drewN ?_ _ | refine blk_drew ?_ | refine blk_alloc ?_ _)); exact BK.out); have hb_ := Aside0.mk (show Below w.heap.size w w2 from by rw [e_]; exact (by repeat (first | (with_reducible first | exact HB.out | apply below_alloc | apply pw_below_drewN | apply below_drew1) | exact HB.out))); clear BK HB; have BK := bk_; have HB := hb_; clear bk_ hb_ e_; (try (have z_0 := (blk_cell KZ.out 0).trans (show (#[.int .i64 0] : Array Value)[0]? = some (.int .i64 0) from rfl); have z_1 := blk_frozen KZ.out 0)); have kq_ := (HB.out.cell (World.block_lt_of_cell? w _ HR.out.2.2.1)).trans HR.out.2.2.1) | (go_at_call 73; (with_reducible refine (impl_Plus.calls v c u _ H2.out.2.2.2.2.1).mono ?_); rintro e w3 ⟨rfl, ⟨n_, e_⟩⟩; (first | (have kz_ := Aside0.mk (blk_drewN KZ.out n_); rw [← e_] at kz_; clear KZ; have KZ := kz_; clear kz_) | (have kz_ := Aside0.mk (blk_drewN (heap_alloc_new w2 (.cells #[.int .i64 0] 3)) n_); rw [← e_] at kz_; have KZ := kz_; have KG := Aside0.mk (show w.heap.size < w2.heap.size from blk_lt BK.out); clear kz_) | skip); have bk_ := Aside0.mk (show w3.heap[w.heap.size]? = some (.cells #[.int .i64 m] 3 (0, 0)) from by rw [e_]; (with_reducible repeat (first | refine blk_drewN ?_ _ | refine blk_drew ?_ | refine blk_alloc ?_ _)); exact BK.out); have hb_ := Aside0.mk (show Below w.heap.size w w3 from by rw [e_]; exact (by repeat (first | (with_reducible first | exact HB.out | apply below_alloc | apply pw_below_drewN | apply below_drew1) | exact HB.out))); clear BK HB; have BK := bk_; have HB := hb_; clear bk_ hb_ e_; (try (have z_0 := (blk_cell KZ.out 0).trans (show (#[.int .i64 0] : Array Value)[0]? = some (.int .i64 0) from rfl); have z_1 := blk_frozen KZ.out 0)); have kq_ := (HB.out.cell (World.block_lt_of_cell? w _ HR.out.2.2.1)).trans HR.out.2.2.1) | (go_at_call 77; (with_reducible refine (impl_Inverse.calls k u b _ H2.out.2.2.2.2.2.1).mono ?_); rintro e w4 ⟨rfl, ⟨n_, e_⟩⟩; (first | (have kz_ := Aside0.mk (blk_drewN KZ.out n_); rw [← e_] at kz_; clear KZ; have KZ := kz_; clear kz_) | (have kz_ := Aside0.mk (blk_drewN (heap_alloc_new w3 (.cells #[.int .i64 0] 3)) n_); rw [← e_] at kz_; have KZ := kz_; have KG := Aside0.mk (show w.heap.size < w3.heap.size from blk_lt BK.out); clear kz_) | skip); have bk_ := Aside0.mk (show w4.heap[w.heap.size]? = some (.cells #[.int .i64 m] 3 (0, 0)) from by rw [e_]; (with_reducible repeat (first | refine blk_drewN ?_ _ | refine blk_drew ?_ | refine blk_alloc ?_ _)); exact BK.out); have hb_ := Aside0.mk (show Below w.heap.size w w4 from by rw [e_]; exact (by repeat (first | (with_reducible first | exact HB.out | apply below_alloc | apply pw_below_drewN | apply below_drew1) | exact HB.out))); clear BK HB; have BK := bk_; have HB := hb_; clear bk_ hb_ e_; (try (have z_0 := (blk_cell KZ.out 0).trans (show (#[.int .i64 0] : Array Value)[0]? = some (.int .i64 0) from rfl); have z_1 := blk_frozen KZ.out 0)); have kq_ := (HB.out.cell (World.block_lt_of_cell? w _ HR.out.2.2.1)).trans HR.out.2.2.1))
              all_goals (first
                | (have KB := Aside0.mk (blk_put1 KZ.out (.int .i64 b))
                   have KM := Aside0.mk (blk_far1 BK.out KG.out (.int .i64 b))
                   have HB5 := Aside0.mk (below_set (v := .int .i64 b) (j := 0) HB.out (Nat.le_of_lt KG.out))
                   clear BK HB KZ
                   revert KB KM HB5
                   generalize World.setCell _ _ _ = W5
                   intro KB KM HB5)
                | (have KB := Aside0.mk (heap_alloc_new w4 (.cells #[.int .i64 b] 3))
                   have KM := Aside0.mk (blk_alloc BK.out (.cells #[.int .i64 b] 3))
                   have HB5 := Aside0.mk (below_alloc HB.out (.cells #[.int .i64 b] 3))
                   clear BK HB
                   revert KB KM HB5
                   generalize World.alloc _ _ = W5
                   intro KB KM HB5))
              all_goals (
                go_upto_region 15 with (fail)
                go_wp2_with (first | (go_at_call 79; refine (mapFc_calls (nrmF m b) 80 ⟨w.heap.size, 0, none⟩ ⟨_, 0, none⟩ nrm_eg k A0 c0 l0 r _ ?f (Kd.C_below HR.out.1 HB5.out) HR.out.2.1 HR.out.2.2.2 H2.out.2.2.2.2.2.2).mono ?_; (case f => exact fun k x r W' hB h => nrm_c m b x r _ _ W' k (blk_below KM.out hB) (blk_below KB.out hB) h); rintro e w7 ⟨v0, rfl, ho0, hb⟩; have HO := Aside0.mk (And.intro (Kd.R_lower ho0 (below_size HB5.out)) (below_step HB5.out hb)); clear ho0 hb))
                go_ret
                exact ⟨_, rfl, HO.out.1, HO.out.2⟩)

set_option maxHeartbeats 8000000 in
set_option maxRecDepth 100000 in
theorem impl_Normalise_1.calls (k : Nat) (A0 : Option Addr) (c0 : Nat) (l0 : List Int) (a1 : Int) (q1 : Nat) (r : List Int) (w : World) (hr0 : Kd.C (Kd.int .i64) w A0 l0.length l0) (hc0 : l0.length ≤ c0) (hcap : impl_Normalise_1.Cap w a1 q1) (h : impl_Normalise_1.f k l0 a1 = some r) :
    Calls Try.prog 72 #[.slice A0 l0.length c0, .pointer (some ⟨q1, 0, none⟩)] w fun e w' => ∃ v0_ : Value, e = .returned (v0_) ∧ Kd.R (Kd.int .i64) 3 w' w.heap.size (fun _ => True) v0_ r ∧ Below w.heap.size w w' := by
  unfold impl_Normalise_1.f at h
  by_cases c1 : l0.length ≤ 35184372088832
  · rw [if_pos c1] at h
    obtain ⟨m0, h1, h⟩ := Option.bind_eq_some_iff.mp h
    obtain ⟨m, h2, h⟩ := Option.bind_eq_some_iff.mp h
    obtain ⟨s, h3, h⟩ := Option.bind_eq_some_iff.mp h
    obtain ⟨v, h4, h⟩ := Option.bind_eq_some_iff.mp h
    obtain ⟨c, h5, h⟩ := Option.bind_eq_some_iff.mp h
    obtain ⟨u, h6, h⟩ := Option.bind_eq_some_iff.mp h
    obtain ⟨b, h7, h8⟩ := Option.bind_eq_some_iff.mp h
    exact nrm_walk k _ _ l0 a1 m0 m s v c u b q1 r w hr0 hc0 hcap c1 h1 h2 h3 h4 h5 h6 h7 h8
  · rw [if_neg c1] at h
    cases h

/-! ### impl_isNum: function 123 -/
def impl_isNum.f (a0 : Int) : Option (Bool) := if a0 ≥ 0 then (some (decide (a0 < 2147483647))) else (some false)
set_option maxHeartbeats 8000000 in
set_option maxRecDepth 100000 in
theorem impl_isNum.calls (a0 : Int) (r : Bool) (w : World) (h : impl_isNum.f a0 = some r) :
    Calls Try.prog 123 #[.int .i64 a0] w fun e w' => e = .returned (.bool r) ∧ Drawn0 w w' := by
  have H : (if a0 ≥ 0 then (some (decide (a0 < 2147483647))) else (some false)) = some r := h
  clear h
  by_cases c2 : a0 ≥ 0
  · rw [if_pos c2] at H
    have c2b0 : decide (0 ≤ a0) = true := decide_eq_true c2
    clear c2
    obtain rfl := Option.some.inj H
    go_enter Try.func123, Try.ntmps123
    go_wp2
    go_ret
    exact ⟨by first | rfl | (simp; done) | (simp [*]; done), by repeat (first | exact Drawn0.refl _ | apply Drawn0.step)⟩
  · rw [if_neg c2] at H
    have c2b0 : decide (0 ≤ a0) = false := decide_eq_false c2
    clear c2
    obtain rfl := Option.some.inj H
    go_enter Try.func123, Try.ntmps123
    go_wp2
    go_ret
    exact ⟨by first | rfl | (simp; done) | (simp [*]; done), by repeat (first | exact Drawn0.refl _ | apply Drawn0.step)⟩

/-! ### impl_allNums: function 119 -/
def impl_allNums.l0 : Nat → List Int → Int → Int → Option (Bool)
  | 0, _, _, _ => none
  | k + 1, x5, x6, x7 => if x7 < x6 then (if 0 ≤ x7 then (if x7 < (x5.length : Int) then ((impl_isNum.f (rd x5 x7)).bind fun t264 => (if t264 = true then (impl_allNums.l0 k x5 x6 (wrap64 (x7 + 1))) else (some false))) else (none)) else (none)) else (some true)
def impl_allNums.f (k : Nat) (l0 : List Int) : Option (Bool) := impl_allNums.l0 k l0 (l0.length : Int) 0
theorem impl_allNums.mono_l : ∀ k, (∀ y0 y1 y2, LeO (impl_allNums.l0 k y0 y1 y2) (impl_allNums.l0 (k + 1) y0 y1 y2))
  | 0 => fun _ _ _ r h => by simp [impl_allNums.l0] at h
  | k + 1 => by
    have ih0 := impl_allNums.mono_l k
    · intro y0 y1 y2
      unfold impl_allNums.l0
      repeat' first
      | (with_reducible exact ih0 _ _ _)
      | (with_reducible exact LeO.refl _)
      | (with_reducible exact LeO.none _)
      | (with_reducible refine LeO.ite ?_ ?_)
      | (with_reducible refine LeO.bind ?_ (fun _ => ?_))
      | exact ih0 _ _ _
      | exact LeO.none _
      | refine LeO.ite ?_ ?_
      | refine LeO.bind ?_ (fun _ => ?_)
theorem impl_allNums.mono : ∀ a0 k, LeO (impl_allNums.f k a0) (impl_allNums.f (k + 1) a0) := by
  intro a0 k
  have ih0 := impl_allNums.mono_l k
  unfold impl_allNums.f
  repeat' first
      | (with_reducible exact ih0 _ _ _)
      | (with_reducible exact LeO.refl _)
      | (with_reducible exact LeO.none _)
      | (with_reducible refine LeO.ite ?_ ?_)
      | (with_reducible refine LeO.bind ?_ (fun _ => ?_))
      | exact ih0 _ _ _
      | exact LeO.none _
      | refine LeO.ite ?_ ?_
      | refine LeO.bind ?_ (fun _ => ?_)
set_option maxHeartbeats 8000000 in
set_option maxRecDepth 100000 in
theorem impl_allNums.calls (k : Nat) (A0 : Option Addr) (c0 : Nat) (l0 : List Int) (r : Bool) (w : World) (hr0 : Kd.C (Kd.int .i64) w A0 l0.length l0) (hc0 : l0.length ≤ c0) (h : impl_allNums.f k l0 = some r) :
    Calls Try.prog 119 #[.slice A0 l0.length c0] w fun e w' => e = .returned (.bool r) ∧ Drawn0 w w' := by
  have HR0 := Aside0.mk hr0
  have HC0 := Aside0.mk hc0
  clear hr0 hc0
  have H : (impl_allNums.l0 k l0 (l0.length : Int) 0) = some r := h
  clear h
  have H' := Aside0.mk H
  clear H
  go_enter Try.func119, Try.ntmps119
  go_wp2
  go_loopg [7] k (fun kq v7 w' => ∃ (x7_1 : Int), v7 = .int .i64 x7_1 ∧ Aside0 (impl_allNums.l0 kq l0 (l0.length : Int) x7_1 = some r) ∧ Aside0 (kq ≤ k) ∧ Drawn0 w w')
  case atStart => exact ⟨(0), (by first | rfl | (simp; done) | (simp [*]; done)), H', ⟨Nat.le_refl _⟩, by repeat (first | exact Drawn0.refl _ | apply Drawn0.step)⟩
  case round =>
    clear H'
    try clear c1
    obtain ⟨x7_1, rfl, HA, HK1, ⟨m1, rfl⟩⟩ := hrel
    cases gk with
    | zero => exact absurd HA.out (by simp [impl_allNums.l0])
    | succ k1 =>
      have H := HA.out
      clear HA
      simp only [impl_allNums.l0] at H
      by_cases c2 : x7_1 < (l0.length : Int)
      · rw [if_pos c2] at H
        have c2b0 : decide (x7_1 < (l0.length : Int)) = true := decide_eq_true c2
        clear c2
        by_cases c3 : 0 ≤ x7_1
        · rw [if_pos c3] at H
          have c3b0 : decide (0 ≤ x7_1) = true := decide_eq_true c3
          clear c3
          by_cases c4 : x7_1 < (l0.length : Int)
          · rw [if_pos c4] at H
            have c4b0 : decide (x7_1 < (l0.length : Int)) = true := decide_eq_true c4
            clear c4
            replace H := Option.bind_eq_some_iff.mp H
            obtain ⟨t264, A50, H⟩ := H
            replace H : (if t264 = true then (impl_allNums.l0 k1 l0 (l0.length : Int) (wrap64 (x7_1 + 1))) else (some false)) = some r := H
            have A5 := Aside0.mk A50
            clear A50
            by_cases c6 : t264 = true
            · subst c6
              have H1 : (impl_allNums.l0 k1 l0 (l0.length : Int) (wrap64 (x7_1 + 1))) = some r := by rw [if_pos rfl] at H; exact H
              clear H
              have H := H1
              clear H1
              have H' := Aside0.mk H
              clear H
              have p263 : 0 ≤ (x7_1 : Int) := of_decide_eq_true (by first | (with_reducible assumption) | assumption)
              have q263 : x7_1 < (l0.length : Int) := of_decide_eq_true (by first | (with_reducible assumption) | assumption)
              obtain ⟨ad263, e263, hx263_0⟩ := Kd.at_int HR0.out x7_1 p263 q263
              cases e263
              replace p263 := eq_true p263
              replace q263 := eq_true q263
              go_wp2_with (first | ((with_reducible refine gate_callee (f := 123) rfl ?_); refine goesL_ (some 12) rfl rfl Try.func123 (by kernel_rfl) rfl #[.int .i64 (rd l0 x7_1)] rfl (by (try simp only [List.map_toArray, List.map_cons, List.map_nil]); first | done | rfl | (simp only [List.length_drop, List.length_take]; rfl)) ?_; (with_reducible refine (impl_isNum.calls (rd l0 x7_1) true _ A5.out).mono ?_); rintro e w' ⟨rfl, ⟨nd, rfl⟩⟩; refine ⟨_, rfl, ?_⟩))
              go_roundg k1
              case measure => have := HK1.out; omega
              case rel => exact ⟨(wrap64 (x7_1 + 1)), (by first | rfl | (simp; done) | (simp [*]; done)), H', ⟨by have := HK1.out; omega⟩, by repeat (first | exact Drawn0.refl _ | apply Drawn0.step)⟩
            · replace c6 := Bool.eq_false_iff.mpr c6
              subst c6
              have H1 : (some false) = some r := by rw [if_neg (show ¬ (false = true) by decide)] at H; exact H
              clear H
              have H := H1
              clear H1
              obtain rfl := Option.some.inj H
              have p263 : 0 ≤ (x7_1 : Int) := of_decide_eq_true (by first | (with_reducible assumption) | assumption)
              have q263 : x7_1 < (l0.length : Int) := of_decide_eq_true (by first | (with_reducible assumption) | assumption)
              obtain ⟨ad263, e263, hx263_0⟩ := Kd.at_int HR0.out x7_1 p263 q263
              cases e263
              replace p263 := eq_true p263
              replace q263 := eq_true q263
              go_wp2_with (first | ((with_reducible refine gate_callee (f := 123) rfl ?_); refine goesL_ (some 12) rfl rfl Try.func123 (by kernel_rfl) rfl #[.int .i64 (rd l0 x7_1)] rfl (by (try simp only [List.map_toArray, List.map_cons, List.map_nil]); first | done | rfl | (simp only [List.length_drop, List.length_take]; rfl)) ?_; (with_reducible refine (impl_isNum.calls (rd l0 x7_1) false _ A5.out).mono ?_); rintro e w' ⟨rfl, ⟨nd, rfl⟩⟩; refine ⟨_, rfl, ?_⟩))
              go_ret
              exact ⟨by first | rfl | (simp; done) | (simp [*]; done), by repeat (first | exact Drawn0.refl _ | apply Drawn0.step)⟩
          · rw [if_neg c4] at H
            exact absurd H (by simp)
        · rw [if_neg c3] at H
          exact absurd H (by simp)
      · rw [if_neg c2] at H
        have c2b0 : decide (x7_1 < (l0.length : Int)) = false := decide_eq_false c2
        clear c2
        obtain rfl := Option.some.inj H
        go_wp2
        go_ret
        exact ⟨by first | rfl | (simp; done) | (simp [*]; done), by repeat (first | exact Drawn0.refl _ | apply Drawn0.step)⟩

/-! ### impl_TensorOk: function 98 -/
def impl_TensorOk.f (k : Nat) (l0_0 : List Int) (l0_1 : List Int) : Option (Bool) := (impl_DimsOk.f k l0_0).bind fun t266 => (if t266 = true then ((impl_product.f k l0_0).bind fun t267 => (if (l0_1.length : Int) = t267 then ((impl_allNums.f k l0_1).bind fun t268 => (some t268)) else (some false))) else (some false))
theorem impl_TensorOk.mono : ∀ a0 a1 k, LeO (impl_TensorOk.f k a0 a1) (impl_TensorOk.f (k + 1) a0 a1) := by
  intro a0 a1 k
  unfold impl_TensorOk.f
  repeat' first
      | (with_reducible exact impl_DimsOk.mono _ _)
      | (with_reducible exact impl_allNums.mono _ _)
      | (with_reducible exact impl_product.mono _ _)
      | (with_reducible exact LeO.refl _)
      | (with_reducible exact LeO.none _)
      | (with_reducible refine LeO.ite ?_ ?_)
      | (with_reducible refine LeO.bind ?_ (fun _ => ?_))
      | exact impl_DimsOk.mono _ _
      | exact impl_allNums.mono _ _
      | exact impl_product.mono _ _
      | exact LeO.none _
      | refine LeO.ite ?_ ?_
      | refine LeO.bind ?_ (fun _ => ?_)
set_option maxHeartbeats 8000000 in
set_option maxRecDepth 100000 in
theorem impl_TensorOk.calls (k : Nat) (A0_0 : Option Addr) (c0_0 : Nat) (l0_0 : List Int) (A0_1 : Option Addr) (c0_1 : Nat) (l0_1 : List Int) (r : Bool) (w : World) (hr0_0 : Kd.C (Kd.int .i64) w A0_0 l0_0.length l0_0) (hc0_0 : l0_0.length ≤ c0_0) (hr0_1 : Kd.C (Kd.int .i64) w A0_1 l0_1.length l0_1) (hc0_1 : l0_1.length ≤ c0_1) (h : impl_TensorOk.f k l0_0 l0_1 = some r) :
    Calls Try.prog 98 #[.agg #[.slice A0_0 l0_0.length c0_0, .slice A0_1 l0_1.length c0_1]] w fun e w' => e = .returned (.bool r) ∧ Below w.heap.size w w' := by
  have hu38 := Try.underlying38
  have HR0_0 := Aside0.mk hr0_0
  have HC0_0 := Aside0.mk hc0_0
  clear hr0_0 hc0_0
  have HR0_1 := Aside0.mk hr0_1
  have HC0_1 := Aside0.mk hc0_1
  clear hr0_1 hc0_1
  have HB := Aside0.mk (Below.refl w.heap.size w)
  have H : ((impl_DimsOk.f k l0_0).bind fun t266 => (if t266 = true then ((impl_product.f k l0_0).bind fun t267 => (if (l0_1.length : Int) = t267 then ((impl_allNums.f k l0_1).bind fun t268 => (some t268)) else (some false))) else (some false))) = some r := h
  clear h
  replace H := Option.bind_eq_some_iff.mp H
  obtain ⟨t266, A20, H⟩ := H
  replace H : (if t266 = true then ((impl_product.f k l0_0).bind fun t267 => (if (l0_1.length : Int) = t267 then ((impl_allNums.f k l0_1).bind fun t268 => (some t268)) else (some false))) else (some false)) = some r := H
  have A2 := Aside0.mk A20
  clear A20
  by_cases c3 : t266 = true
  · subst c3
    have H1 : ((impl_product.f k l0_0).bind fun t267 => (if (l0_1.length : Int) = t267 then ((impl_allNums.f k l0_1).bind fun t268 => (some t268)) else (some false))) = some r := by rw [if_pos rfl] at H; exact H
    clear H
    have H := H1
    clear H1
    replace H := Option.bind_eq_some_iff.mp H
    obtain ⟨t267, A40, H⟩ := H
    replace H : (if (l0_1.length : Int) = t267 then ((impl_allNums.f k l0_1).bind fun t268 => (some t268)) else (some false)) = some r := H
    have A4 := Aside0.mk A40
    clear A40
    by_cases c5 : (l0_1.length : Int) = t267
    · rw [if_pos c5] at H
      have c5b0 : ((l0_1.length : Int) == t267) = true := beq_iff_eq.mpr c5
      have c5b1 : ((l0_1.length : Int) != t267) = false := bne_eq_false_iff_eq.mpr c5
      clear c5
      replace H := Option.bind_eq_some_iff.mp H
      obtain ⟨t268, A60, H⟩ := H
      replace H : (some t268) = some r := H
      have A6 := Aside0.mk A60
      clear A60
      obtain rfl := Option.some.inj H
      go_enter Try.func98, Try.ntmps98
      go_wp2_with (first | ((with_reducible refine gate_dst (N := 1) rfl ?_); (try (refine gate_guard (by rfl) ?_; dsimp only)); refine box_event ?hg (N := 1) ?hd (cs := #[.slice A0_0 l0_0.length c0_0, .slice A0_1 l0_1.length c0_1]) (t := 38) ?hr ?_; (case hd => rfl); (case hg => rfl); (case hr => first | (go_simp; done) | (go_simp; rfl)); intro gb265 hg w7 hbox hb; have n0_ := Aside0.mk (below_step (by repeat (first | (with_reducible first | exact HB.out | apply below_alloc | apply pw_below_drewN | apply below_drew1) | exact HB.out)) hb); have n1_ := Aside0.mk (hbox); have n2_ := Aside0.mk ((by rw [hg]; exact (below_size (by repeat (first | (with_reducible first | exact HB.out | apply below_alloc | apply pw_below_drewN | apply below_drew1) | exact HB.out))) : w.heap.size ≤ gb265)); have n3_ := Aside0.mk ((by rw [hg]; exact (below_size (by repeat (first | (with_reducible first | exact HB.out | apply below_alloc | apply pw_below_drewN | apply below_drew1) | exact HB.out))) : w.heap.size ≤ gb265)); clear HB; have HB := n0_; have BK265 := n1_; have GW265 := n2_; have GE265 := n3_; clear n0_ n1_ n2_ n3_; clear hb hbox hg; have hcz8_0 : w7.cell? ⟨gb265, 0, none⟩ = some (.slice A0_0 l0_0.length c0_0) := (blk_cell BK265.out 0).trans rfl; have hcz8_1 : w7.cell? ⟨gb265, 1, none⟩ = some (.slice A0_1 l0_1.length c0_1) := (blk_cell BK265.out 1).trans rfl; have hfz8_0 := blk_frozen BK265.out 0; have hfz8_1 := blk_frozen BK265.out 1) | (go_at_call 99; (with_reducible refine (impl_DimsOk.calls k _ _ l0_0 true _ ?side1 ?side2 A2.out).mono ?_); (case side1 => repeat (first | exact (Kd.C_below HR0_0.out HB.out) | (with_reducible refine Kd.C_alloc ?_ _) | (with_reducible refine Kd.C_drewN ?_ _) | (with_reducible refine Kd.C_drew ?_))); (case side2 => exact HC0_0.out); rintro e w' ⟨rfl, ⟨nd, rfl⟩⟩; (try first | exact ⟨rfl, _, World.drewN_drewN _ _ _⟩ | exact ⟨rfl, _, Eq.trans (World.drewN_drewN _ _ _) (congrArg (World.drewN _) (Nat.add_assoc _ _ _))⟩)) | (go_at_call 101; (with_reducible refine (impl_product.calls k _ _ l0_0 t267 _ ?side1 ?side2 A4.out).mono ?_); (case side1 => repeat (first | exact (Kd.C_below HR0_0.out (by repeat (first | (with_reducible first | exact HB.out | apply below_alloc | apply pw_below_drewN | apply below_drew1 | refine below_set ?_ GE265.out) | exact HB.out))) | (with_reducible refine Kd.C_alloc ?_ _) | (with_reducible refine Kd.C_drewN ?_ _) | (with_reducible refine Kd.C_drew ?_))); (case side2 => exact HC0_0.out); rintro e w' ⟨rfl, ⟨nd, rfl⟩⟩; (try first | exact ⟨rfl, _, World.drewN_drewN _ _ _⟩ | exact ⟨rfl, _, Eq.trans (World.drewN_drewN _ _ _) (congrArg (World.drewN _) (Nat.add_assoc _ _ _))⟩)) | (go_at_call 119; (with_reducible refine (impl_allNums.calls k _ _ l0_1 t268 _ ?side1 ?side2 A6.out).mono ?_); (case side1 => repeat (first | exact (Kd.C_below HR0_1.out (by repeat (first | (with_reducible first | exact HB.out | apply below_alloc | apply pw_below_drewN | apply below_drew1 | refine below_set ?_ GE265.out) | exact HB.out))) | (with_reducible refine Kd.C_alloc ?_ _) | (with_reducible refine Kd.C_drewN ?_ _) | (with_reducible refine Kd.C_drew ?_))); (case side2 => exact HC0_1.out); rintro e w' ⟨rfl, ⟨nd, rfl⟩⟩; (try first | exact ⟨rfl, _, World.drewN_drewN _ _ _⟩ | exact ⟨rfl, _, Eq.trans (World.drewN_drewN _ _ _) (congrArg (World.drewN _) (Nat.add_assoc _ _ _))⟩)))
      repeat (go_quiet (first | ((with_reducible refine gate_dst (N := 1) rfl ?_); (try (refine gate_guard (by rfl) ?_; dsimp only)); refine box_event ?hg (N := 1) ?hd (cs := #[.slice A0_0 l0_0.length c0_0, .slice A0_1 l0_1.length c0_1]) (t := 38) ?hr ?_; (case hd => rfl); (case hg => rfl); (case hr => first | (go_simp; done) | (go_simp; rfl)); intro gb265 hg w7 hbox hb; have n0_ := Aside0.mk (below_step (by repeat (first | (with_reducible first | exact HB.out | apply below_alloc | apply pw_below_drewN | apply below_drew1) | exact HB.out)) hb); have n1_ := Aside0.mk (hbox); have n2_ := Aside0.mk ((by rw [hg]; exact (below_size (by repeat (first | (with_reducible first | exact HB.out | apply below_alloc | apply pw_below_drewN | apply below_drew1) | exact HB.out))) : w.heap.size ≤ gb265)); have n3_ := Aside0.mk ((by rw [hg]; exact (below_size (by repeat (first | (with_reducible first | exact HB.out | apply below_alloc | apply pw_below_drewN | apply below_drew1) | exact HB.out))) : w.heap.size ≤ gb265)); clear HB; have HB := n0_; have BK265 := n1_; have GW265 := n2_; have GE265 := n3_; clear n0_ n1_ n2_ n3_; clear hb hbox hg; have hcz8_0 : w7.cell? ⟨gb265, 0, none⟩ = some (.slice A0_0 l0_0.length c0_0) := (blk_cell BK265.out 0).trans rfl; have hcz8_1 : w7.cell? ⟨gb265, 1, none⟩ = some (.slice A0_1 l0_1.length c0_1) := (blk_cell BK265.out 1).trans rfl; have hfz8_0 := blk_frozen BK265.out 0; have hfz8_1 := blk_frozen BK265.out 1) | (go_at_call 99; (with_reducible refine (impl_DimsOk.calls k _ _ l0_0 true _ ?side1 ?side2 A2.out).mono ?_); (case side1 => repeat (first | exact (Kd.C_below HR0_0.out HB.out) | (with_reducible refine Kd.C_alloc ?_ _) | (with_reducible refine Kd.C_drewN ?_ _) | (with_reducible refine Kd.C_drew ?_))); (case side2 => exact HC0_0.out); rintro e w' ⟨rfl, ⟨nd, rfl⟩⟩; (try first | exact ⟨rfl, _, World.drewN_drewN _ _ _⟩ | exact ⟨rfl, _, Eq.trans (World.drewN_drewN _ _ _) (congrArg (World.drewN _) (Nat.add_assoc _ _ _))⟩)) | (go_at_call 101; (with_reducible refine (impl_product.calls k _ _ l0_0 t267 _ ?side1 ?side2 A4.out).mono ?_); (case side1 => repeat (first | exact (Kd.C_below HR0_0.out (by repeat (first | (with_reducible first | exact HB.out | apply below_alloc | apply pw_below_drewN | apply below_drew1 | refine below_set ?_ GE265.out) | exact HB.out))) | (with_reducible refine Kd.C_alloc ?_ _) | (with_reducible refine Kd.C_drewN ?_ _) | (with_reducible refine Kd.C_drew ?_))); (case side2 => exact HC0_0.out); rintro e w' ⟨rfl, ⟨nd, rfl⟩⟩; (try first | exact ⟨rfl, _, World.drewN_drewN _ _ _⟩ | exact ⟨rfl, _, Eq.trans (World.drewN_drewN _ _ _) (congrArg (World.drewN _) (Nat.add_assoc _ _ _))⟩)) | (go_at_call 119; (with_reducible refine (impl_allNums.calls k _ _ l0_1 t268 _ ?side1 ?side2 A6.out).mono ?_); (case side1 => repeat (first | exact (Kd.C_below HR0_1.out (by repeat (first | (with_reducible first | exact HB.out | apply below_alloc | apply pw_below_drewN | apply below_drew1 | refine below_set ?_ GE265.out) | exact HB.out))) | (with_reducible refine Kd.C_alloc ?_ _) | (with_reducible refine Kd.C_drewN ?_ _) | (with_reducible refine Kd.C_drew ?_))); (case side2 => exact HC0_1.out); rintro e w' ⟨rfl, ⟨nd, rfl⟩⟩; (try first | exact ⟨rfl, _, World.drewN_drewN _ _ _⟩ | exact ⟨rfl, _, Eq.trans (World.drewN_drewN _ _ _) (congrArg (World.drewN _) (Nat.add_assoc _ _ _))⟩))); try go_wp2_with (first | ((with_reducible refine gate_dst (N := 1) rfl ?_); (try (refine gate_guard (by rfl) ?_; dsimp only)); refine box_event ?hg (N := 1) ?hd (cs := #[.slice A0_0 l0_0.length c0_0, .slice A0_1 l0_1.length c0_1]) (t := 38) ?hr ?_; (case hd => rfl); (case hg => rfl); (case hr => first | (go_simp; done) | (go_simp; rfl)); intro gb265 hg w7 hbox hb; have n0_ := Aside0.mk (below_step (by repeat (first | (with_reducible first | exact HB.out | apply below_alloc | apply pw_below_drewN | apply below_drew1) | exact HB.out)) hb); have n1_ := Aside0.mk (hbox); have n2_ := Aside0.mk ((by rw [hg]; exact (below_size (by repeat (first | (with_reducible first | exact HB.out | apply below_alloc | apply pw_below_drewN | apply below_drew1) | exact HB.out))) : w.heap.size ≤ gb265)); have n3_ := Aside0.mk ((by rw [hg]; exact (below_size (by repeat (first | (with_reducible first | exact HB.out | apply below_alloc | apply pw_below_drewN | apply below_drew1) | exact HB.out))) : w.heap.size ≤ gb265)); clear HB; have HB := n0_; have BK265 := n1_; have GW265 := n2_; have GE265 := n3_; clear n0_ n1_ n2_ n3_; clear hb hbox hg; have hcz8_0 : w7.cell? ⟨gb265, 0, none⟩ = some (.slice A0_0 l0_0.length c0_0) := (blk_cell BK265.out 0).trans rfl; have hcz8_1 : w7.cell? ⟨gb265, 1, none⟩ = some (.slice A0_1 l0_1.length c0_1) := (blk_cell BK265.out 1).trans rfl; have hfz8_0 := blk_frozen BK265.out 0; have hfz8_1 := blk_frozen BK265.out 1) | (go_at_call 99; (with_reducible refine (impl_DimsOk.calls k _ _ l0_0 true _ ?side1 ?side2 A2.out).mono ?_); (case side1 => repeat (first | exact (Kd.C_below HR0_0.out HB.out) | (with_reducible refine Kd.C_alloc ?_ _) | (with_reducible refine Kd.C_drewN ?_ _) | (with_reducible refine Kd.C_drew ?_))); (case side2 => exact HC0_0.out); rintro e w' ⟨rfl, ⟨nd, rfl⟩⟩; (try first | exact ⟨rfl, _, World.drewN_drewN _ _ _⟩ | exact ⟨rfl, _, Eq.trans (World.drewN_drewN _ _ _) (congrArg (World.drewN _) (Nat.add_assoc _ _ _))⟩)) | (go_at_call 101; (with_reducible refine (impl_product.calls k _ _ l0_0 t267 _ ?side1 ?side2 A4.out).mono ?_); (case side1 => repeat (first | exact (Kd.C_below HR0_0.out (by repeat (first | (with_reducible first | exact HB.out | apply below_alloc | apply pw_below_drewN | apply below_drew1 | refine below_set ?_ GE265.out) | exact HB.out))) | (with_reducible refine Kd.C_alloc ?_ _) | (with_reducible refine Kd.C_drewN ?_ _) | (with_reducible refine Kd.C_drew ?_))); (case side2 => exact HC0_0.out); rintro e w' ⟨rfl, ⟨nd, rfl⟩⟩; (try first | exact ⟨rfl, _, World.drewN_drewN _ _ _⟩ | exact ⟨rfl, _, Eq.trans (World.drewN_drewN _ _ _) (congrArg (World.drewN _) (Nat.add_assoc _ _ _))⟩)) | (go_at_call 119; (with_reducible refine (impl_allNums.calls k _ _ l0_1 t268 _ ?side1 ?side2 A6.out).mono ?_); (case side1 => repeat (first | exact (Kd.C_below HR0_1.out (by repeat (first | (with_reducible first | exact HB.out | apply below_alloc | apply pw_below_drewN | apply below_drew1 | refine below_set ?_ GE265.out) | exact HB.out))) | (with_reducible refine Kd.C_alloc ?_ _) | (with_reducible refine Kd.C_drewN ?_ _) | (with_reducible refine Kd.C_drew ?_))); (case side2 => exact HC0_1.out); rintro e w' ⟨rfl, ⟨nd, rfl⟩⟩; (try first | exact ⟨rfl, _, World.drewN_drewN _ _ _⟩ | exact ⟨rfl, _, Eq.trans (World.drewN_drewN _ _ _) (congrArg (World.drewN _) (Nat.add_assoc _ _ _))⟩))))
      go_ret
      exact ⟨by first | rfl | (simp [errW_none, errW_some] <;> rfl) | (simp [*, errW_none, errW_some] <;> rfl), by repeat (first | (with_reducible first | exact HB.out | apply below_alloc | apply pw_below_drewN | apply below_drew1 | refine below_set ?_ GE265.out) | exact HB.out)⟩
    · rw [if_neg c5] at H
      have c5b0 : ((l0_1.length : Int) == t267) = false := beq_eq_false_iff_ne.mpr c5
      have c5b1 : ((l0_1.length : Int) != t267) = true := bne_iff_ne.mpr c5
      obtain rfl := Option.some.inj H
      go_enter Try.func98, Try.ntmps98
      go_wp2_with (first | ((with_reducible refine gate_dst (N := 1) rfl ?_); (try (refine gate_guard (by rfl) ?_; dsimp only)); refine box_event ?hg (N := 1) ?hd (cs := #[.slice A0_0 l0_0.length c0_0, .slice A0_1 l0_1.length c0_1]) (t := 38) ?hr ?_; (case hd => rfl); (case hg => rfl); (case hr => first | (go_simp; done) | (go_simp; rfl)); intro gb265 hg w9 hbox hb; have n0_ := Aside0.mk (below_step (by repeat (first | (with_reducible first | exact HB.out | apply below_alloc | apply pw_below_drewN | apply below_drew1) | exact HB.out)) hb); have n1_ := Aside0.mk (hbox); have n2_ := Aside0.mk ((by rw [hg]; exact (below_size (by repeat (first | (with_reducible first | exact HB.out | apply below_alloc | apply pw_below_drewN | apply below_drew1) | exact HB.out))) : w.heap.size ≤ gb265)); have n3_ := Aside0.mk ((by rw [hg]; exact (below_size (by repeat (first | (with_reducible first | exact HB.out | apply below_alloc | apply pw_below_drewN | apply below_drew1) | exact HB.out))) : w.heap.size ≤ gb265)); clear HB; have HB := n0_; have BK265 := n1_; have GW265 := n2_; have GE265 := n3_; clear n0_ n1_ n2_ n3_; clear hb hbox hg; have hcz10_0 : w9.cell? ⟨gb265, 0, none⟩ = some (.slice A0_0 l0_0.length c0_0) := (blk_cell BK265.out 0).trans rfl; have hcz10_1 : w9.cell? ⟨gb265, 1, none⟩ = some (.slice A0_1 l0_1.length c0_1) := (blk_cell BK265.out 1).trans rfl; have hfz10_0 := blk_frozen BK265.out 0; have hfz10_1 := blk_frozen BK265.out 1) | (go_at_call 99; (with_reducible refine (impl_DimsOk.calls k _ _ l0_0 true _ ?side1 ?side2 A2.out).mono ?_); (case side1 => repeat (first | exact (Kd.C_below HR0_0.out HB.out) | (with_reducible refine Kd.C_alloc ?_ _) | (with_reducible refine Kd.C_drewN ?_ _) | (with_reducible refine Kd.C_drew ?_))); (case side2 => exact HC0_0.out); rintro e w' ⟨rfl, ⟨nd, rfl⟩⟩; (try first | exact ⟨rfl, _, World.drewN_drewN _ _ _⟩ | exact ⟨rfl, _, Eq.trans (World.drewN_drewN _ _ _) (congrArg (World.drewN _) (Nat.add_assoc _ _ _))⟩)) | (go_at_call 101; (with_reducible refine (impl_product.calls k _ _ l0_0 t267 _ ?side1 ?side2 A4.out).mono ?_); (case side1 => repeat (first | exact (Kd.C_below HR0_0.out (by repeat (first | (with_reducible first | exact HB.out | apply below_alloc | apply pw_below_drewN | apply below_drew1 | refine below_set ?_ GE265.out) | exact HB.out))) | (with_reducible refine Kd.C_alloc ?_ _) | (with_reducible refine Kd.C_drewN ?_ _) | (with_reducible refine Kd.C_drew ?_))); (case side2 => exact HC0_0.out); rintro e w' ⟨rfl, ⟨nd, rfl⟩⟩; (try first | exact ⟨rfl, _, World.drewN_drewN _ _ _⟩ | exact ⟨rfl, _, Eq.trans (World.drewN_drewN _ _ _) (congrArg (World.drewN _) (Nat.add_assoc _ _ _))⟩)))
      repeat (go_quiet (first | ((with_reducible refine gate_dst (N := 1) rfl ?_); (try (refine gate_guard (by rfl) ?_; dsimp only)); refine box_event ?hg (N := 1) ?hd (cs := #[.slice A0_0 l0_0.length c0_0, .slice A0_1 l0_1.length c0_1]) (t := 38) ?hr ?_; (case hd => rfl); (case hg => rfl); (case hr => first | (go_simp; done) | (go_simp; rfl)); intro gb265 hg w9 hbox hb; have n0_ := Aside0.mk (below_step (by repeat (first | (with_reducible first | exact HB.out | apply below_alloc | apply pw_below_drewN | apply below_drew1) | exact HB.out)) hb); have n1_ := Aside0.mk (hbox); have n2_ := Aside0.mk ((by rw [hg]; exact (below_size (by repeat (first | (with_reducible first | exact HB.out | apply below_alloc | apply pw_below_drewN | apply below_drew1) | exact HB.out))) : w.heap.size ≤ gb265)); have n3_ := Aside0.mk ((by rw [hg]; exact (below_size (by repeat (first | (with_reducible first | exact HB.out | apply below_alloc | apply pw_below_drewN | apply below_drew1) | exact HB.out))) : w.heap.size ≤ gb265)); clear HB; have HB := n0_; have BK265 := n1_; have GW265 := n2_; have GE265 := n3_; clear n0_ n1_ n2_ n3_; clear hb hbox hg; have hcz10_0 : w9.cell? ⟨gb265, 0, none⟩ = some (.slice A0_0 l0_0.length c0_0) := (blk_cell BK265.out 0).trans rfl; have hcz10_1 : w9.cell? ⟨gb265, 1, none⟩ = some (.slice A0_1 l0_1.length c0_1) := (blk_cell BK265.out 1).trans rfl; have hfz10_0 := blk_frozen BK265.out 0; have hfz10_1 := blk_frozen BK265.out 1) | (go_at_call 99; (with_reducible refine (impl_DimsOk.calls k _ _ l0_0 true _ ?side1 ?side2 A2.out).mono ?_); (case side1 => repeat (first | exact (Kd.C_below HR0_0.out HB.out) | (with_reducible refine Kd.C_alloc ?_ _) | (with_reducible refine Kd.C_drewN ?_ _) | (with_reducible refine Kd.C_drew ?_))); (case side2 => exact HC0_0.out); rintro e w' ⟨rfl, ⟨nd, rfl⟩⟩; (try first | exact ⟨rfl, _, World.drewN_drewN _ _ _⟩ | exact ⟨rfl, _, Eq.trans (World.drewN_drewN _ _ _) (congrArg (World.drewN _) (Nat.add_assoc _ _ _))⟩)) | (go_at_call 101; (with_reducible refine (impl_product.calls k _ _ l0_0 t267 _ ?side1 ?side2 A4.out).mono ?_); (case side1 => repeat (first | exact (Kd.C_below HR0_0.out (by repeat (first | (with_reducible first | exact HB.out | apply below_alloc | apply pw_below_drewN | apply below_drew1 | refine below_set ?_ GE265.out) | exact HB.out))) | (with_reducible refine Kd.C_alloc ?_ _) | (with_reducible refine Kd.C_drewN ?_ _) | (with_reducible refine Kd.C_drew ?_))); (case side2 => exact HC0_0.out); rintro e w' ⟨rfl, ⟨nd, rfl⟩⟩; (try first | exact ⟨rfl, _, World.drewN_drewN _ _ _⟩ | exact ⟨rfl, _, Eq.trans (World.drewN_drewN _ _ _) (congrArg (World.drewN _) (Nat.add_assoc _ _ _))⟩))); try go_wp2_with (first | ((with_reducible refine gate_dst (N := 1) rfl ?_); (try (refine gate_guard (by rfl) ?_; dsimp only)); refine box_event ?hg (N := 1) ?hd (cs := #[.slice A0_0 l0_0.length c0_0, .slice A0_1 l0_1.length c0_1]) (t := 38) ?hr ?_; (case hd => rfl); (case hg => rfl); (case hr => first | (go_simp; done) | (go_simp; rfl)); intro gb265 hg w9 hbox hb; have n0_ := Aside0.mk (below_step (by repeat (first | (with_reducible first | exact HB.out | apply below_alloc | apply pw_below_drewN | apply below_drew1) | exact HB.out)) hb); have n1_ := Aside0.mk (hbox); have n2_ := Aside0.mk ((by rw [hg]; exact (below_size (by repeat (first | (with_reducible first | exact HB.out | apply below_alloc | apply pw_below_drewN | apply below_drew1) | exact HB.out))) : w.heap.size ≤ gb265)); have n3_ := Aside0.mk ((by rw [hg]; exact (below_size (by repeat (first | (with_reducible first | exact HB.out | apply below_alloc | apply pw_below_drewN | apply below_drew1) | exact HB.out))) : w.heap.size ≤ gb265)); clear HB; have HB := n0_; have BK265 := n1_; have GW265 := n2_; have GE265 := n3_; clear n0_ n1_ n2_ n3_; clear hb hbox hg; have hcz10_0 : w9.cell? ⟨gb265, 0, none⟩ = some (.slice A0_0 l0_0.length c0_0) := (blk_cell BK265.out 0).trans rfl; have hcz10_1 : w9.cell? ⟨gb265, 1, none⟩ = some (.slice A0_1 l0_1.length c0_1) := (blk_cell BK265.out 1).trans rfl; have hfz10_0 := blk_frozen BK265.out 0; have hfz10_1 := blk_frozen BK265.out 1) | (go_at_call 99; (with_reducible refine (impl_DimsOk.calls k _ _ l0_0 true _ ?side1 ?side2 A2.out).mono ?_); (case side1 => repeat (first | exact (Kd.C_below HR0_0.out HB.out) | (with_reducible refine Kd.C_alloc ?_ _) | (with_reducible refine Kd.C_drewN ?_ _) | (with_reducible refine Kd.C_drew ?_))); (case side2 => exact HC0_0.out); rintro e w' ⟨rfl, ⟨nd, rfl⟩⟩; (try first | exact ⟨rfl, _, World.drewN_drewN _ _ _⟩ | exact ⟨rfl, _, Eq.trans (World.drewN_drewN _ _ _) (congrArg (World.drewN _) (Nat.add_assoc _ _ _))⟩)) | (go_at_call 101; (with_reducible refine (impl_product.calls k _ _ l0_0 t267 _ ?side1 ?side2 A4.out).mono ?_); (case side1 => repeat (first | exact (Kd.C_below HR0_0.out (by repeat (first | (with_reducible first | exact HB.out | apply below_alloc | apply pw_below_drewN | apply below_drew1 | refine below_set ?_ GE265.out) | exact HB.out))) | (with_reducible refine Kd.C_alloc ?_ _) | (with_reducible refine Kd.C_drewN ?_ _) | (with_reducible refine Kd.C_drew ?_))); (case side2 => exact HC0_0.out); rintro e w' ⟨rfl, ⟨nd, rfl⟩⟩; (try first | exact ⟨rfl, _, World.drewN_drewN _ _ _⟩ | exact ⟨rfl, _, Eq.trans (World.drewN_drewN _ _ _) (congrArg (World.drewN _) (Nat.add_assoc _ _ _))⟩))))
      go_ret
      exact ⟨by first | rfl | (simp [errW_none, errW_some] <;> rfl) | (simp [*, errW_none, errW_some] <;> rfl), by repeat (first | (with_reducible first | exact HB.out | apply below_alloc | apply pw_below_drewN | apply below_drew1 | refine below_set ?_ GE265.out) | exact HB.out)⟩
  · replace c3 := Bool.eq_false_iff.mpr c3
    subst c3
    have H1 : (some false) = some r := by rw [if_neg (show ¬ (false = true) by decide)] at H; exact H
    clear H
    have H := H1
    clear H1
    obtain rfl := Option.some.inj H
    go_enter Try.func98, Try.ntmps98
    go_wp2_with (first | ((with_reducible refine gate_dst (N := 1) rfl ?_); (try (refine gate_guard (by rfl) ?_; dsimp only)); refine box_event ?hg (N := 1) ?hd (cs := #[.slice A0_0 l0_0.length c0_0, .slice A0_1 l0_1.length c0_1]) (t := 38) ?hr ?_; (case hd => rfl); (case hg => rfl); (case hr => first | (go_simp; done) | (go_simp; rfl)); intro gb265 hg w11 hbox hb; have n0_ := Aside0.mk (below_step (by repeat (first | (with_reducible first | exact HB.out | apply below_alloc | apply pw_below_drewN | apply below_drew1) | exact HB.out)) hb); have n1_ := Aside0.mk (hbox); have n2_ := Aside0.mk ((by rw [hg]; exact (below_size (by repeat (first | (with_reducible first | exact HB.out | apply below_alloc | apply pw_below_drewN | apply below_drew1) | exact HB.out))) : w.heap.size ≤ gb265)); have n3_ := Aside0.mk ((by rw [hg]; exact (below_size (by repeat (first | (with_reducible first | exact HB.out | apply below_alloc | apply pw_below_drewN | apply below_drew1) | exact HB.out))) : w.heap.size ≤ gb265)); clear HB; have HB := n0_; have BK265 := n1_; have GW265 := n2_; have GE265 := n3_; clear n0_ n1_ n2_ n3_; clear hb hbox hg; have hcz12_0 : w11.cell? ⟨gb265, 0, none⟩ = some (.slice A0_0 l0_0.length c0_0) := (blk_cell BK265.out 0).trans rfl; have hcz12_1 : w11.cell? ⟨gb265, 1, none⟩ = some (.slice A0_1 l0_1.length c0_1) := (blk_cell BK265.out 1).trans rfl; have hfz12_0 := blk_frozen BK265.out 0; have hfz12_1 := blk_frozen BK265.out 1) | (go_at_call 99; (with_reducible refine (impl_DimsOk.calls k _ _ l0_0 false _ ?side1 ?side2 A2.out).mono ?_); (case side1 => repeat (first | exact (Kd.C_below HR0_0.out HB.out) | (with_reducible refine Kd.C_alloc ?_ _) | (with_reducible refine Kd.C_drewN ?_ _) | (with_reducible refine Kd.C_drew ?_))); (case side2 => exact HC0_0.out); rintro e w' ⟨rfl, ⟨nd, rfl⟩⟩; (try first | exact ⟨rfl, _, World.drewN_drewN _ _ _⟩ | exact ⟨rfl, _, Eq.trans (World.drewN_drewN _ _ _) (congrArg (World.drewN _) (Nat.add_assoc _ _ _))⟩)))
    repeat (go_quiet (first | ((with_reducible refine gate_dst (N := 1) rfl ?_); (try (refine gate_guard (by rfl) ?_; dsimp only)); refine box_event ?hg (N := 1) ?hd (cs := #[.slice A0_0 l0_0.length c0_0, .slice A0_1 l0_1.length c0_1]) (t := 38) ?hr ?_; (case hd => rfl); (case hg => rfl); (case hr => first | (go_simp; done) | (go_simp; rfl)); intro gb265 hg w11 hbox hb; have n0_ := Aside0.mk (below_step (by repeat (first | (with_reducible first | exact HB.out | apply below_alloc | apply pw_below_drewN | apply below_drew1) | exact HB.out)) hb); have n1_ := Aside0.mk (hbox); have n2_ := Aside0.mk ((by rw [hg]; exact (below_size (by repeat (first | (with_reducible first | exact HB.out | apply below_alloc | apply pw_below_drewN | apply below_drew1) | exact HB.out))) : w.heap.size ≤ gb265)); have n3_ := Aside0.mk ((by rw [hg]; exact (below_size (by repeat (first | (with_reducible first | exact HB.out | apply below_alloc | apply pw_below_drewN | apply below_drew1) | exact HB.out))) : w.heap.size ≤ gb265)); clear HB; have HB := n0_; have BK265 := n1_; have GW265 := n2_; have GE265 := n3_; clear n0_ n1_ n2_ n3_; clear hb hbox hg; have hcz12_0 : w11.cell? ⟨gb265, 0, none⟩ = some (.slice A0_0 l0_0.length c0_0) := (blk_cell BK265.out 0).trans rfl; have hcz12_1 : w11.cell? ⟨gb265, 1, none⟩ = some (.slice A0_1 l0_1.length c0_1) := (blk_cell BK265.out 1).trans rfl; have hfz12_0 := blk_frozen BK265.out 0; have hfz12_1 := blk_frozen BK265.out 1) | (go_at_call 99; (with_reducible refine (impl_DimsOk.calls k _ _ l0_0 false _ ?side1 ?side2 A2.out).mono ?_); (case side1 => repeat (first | exact (Kd.C_below HR0_0.out HB.out) | (with_reducible refine Kd.C_alloc ?_ _) | (with_reducible refine Kd.C_drewN ?_ _) | (with_reducible refine Kd.C_drew ?_))); (case side2 => exact HC0_0.out); rintro e w' ⟨rfl, ⟨nd, rfl⟩⟩; (try first | exact ⟨rfl, _, World.drewN_drewN _ _ _⟩ | exact ⟨rfl, _, Eq.trans (World.drewN_drewN _ _ _) (congrArg (World.drewN _) (Nat.add_assoc _ _ _))⟩))); try go_wp2_with (first | ((with_reducible refine gate_dst (N := 1) rfl ?_); (try (refine gate_guard (by rfl) ?_; dsimp only)); refine box_event ?hg (N := 1) ?hd (cs := #[.slice A0_0 l0_0.length c0_0, .slice A0_1 l0_1.length c0_1]) (t := 38) ?hr ?_; (case hd => rfl); (case hg => rfl); (case hr => first | (go_simp; done) | (go_simp; rfl)); intro gb265 hg w11 hbox hb; have n0_ := Aside0.mk (below_step (by repeat (first | (with_reducible first | exact HB.out | apply below_alloc | apply pw_below_drewN | apply below_drew1) | exact HB.out)) hb); have n1_ := Aside0.mk (hbox); have n2_ := Aside0.mk ((by rw [hg]; exact (below_size (by repeat (first | (with_reducible first | exact HB.out | apply below_alloc | apply pw_below_drewN | apply below_drew1) | exact HB.out))) : w.heap.size ≤ gb265)); have n3_ := Aside0.mk ((by rw [hg]; exact (below_size (by repeat (first | (with_reducible first | exact HB.out | apply below_alloc | apply pw_below_drewN | apply below_drew1) | exact HB.out))) : w.heap.size ≤ gb265)); clear HB; have HB := n0_; have BK265 := n1_; have GW265 := n2_; have GE265 := n3_; clear n0_ n1_ n2_ n3_; clear hb hbox hg; have hcz12_0 : w11.cell? ⟨gb265, 0, none⟩ = some (.slice A0_0 l0_0.length c0_0) := (blk_cell BK265.out 0).trans rfl; have hcz12_1 : w11.cell? ⟨gb265, 1, none⟩ = some (.slice A0_1 l0_1.length c0_1) := (blk_cell BK265.out 1).trans rfl; have hfz12_0 := blk_frozen BK265.out 0; have hfz12_1 := blk_frozen BK265.out 1) | (go_at_call 99; (with_reducible refine (impl_DimsOk.calls k _ _ l0_0 false _ ?side1 ?side2 A2.out).mono ?_); (case side1 => repeat (first | exact (Kd.C_below HR0_0.out HB.out) | (with_reducible refine Kd.C_alloc ?_ _) | (with_reducible refine Kd.C_drewN ?_ _) | (with_reducible refine Kd.C_drew ?_))); (case side2 => exact HC0_0.out); rintro e w' ⟨rfl, ⟨nd, rfl⟩⟩; (try first | exact ⟨rfl, _, World.drewN_drewN _ _ _⟩ | exact ⟨rfl, _, Eq.trans (World.drewN_drewN _ _ _) (congrArg (World.drewN _) (Nat.add_assoc _ _ _))⟩))))
    go_ret
    exact ⟨by first | rfl | (simp [errW_none, errW_some] <;> rfl) | (simp [*, errW_none, errW_some] <;> rfl), by repeat (first | (with_reducible first | exact HB.out | apply below_alloc | apply pw_below_drewN | apply below_drew1 | refine below_set ?_ GE265.out) | exact HB.out)⟩

/-! ### impl_isAxis: function 106 -/
def impl_isAxis.f (l0 : List Int) (a1 : Int) : Option (Bool) := if a1 ≥ 0 then (some (decide (a1 < (l0.length : Int)))) else (some false)
set_option maxHeartbeats 8000000 in
set_option maxRecDepth 100000 in
theorem impl_isAxis.calls (A0 : Option Addr) (c0 : Nat) (l0 : List Int) (a1 : Int) (r : Bool) (w : World) (hr0 : Kd.C (Kd.int .i64) w A0 l0.length l0) (hc0 : l0.length ≤ c0) (h : impl_isAxis.f l0 a1 = some r) :
    Calls Try.prog 106 #[.slice A0 l0.length c0, .int .i64 a1] w fun e w' => e = .returned (.bool r) ∧ Drawn0 w w' := by
  have HR0 := Aside0.mk hr0
  have HC0 := Aside0.mk hc0
  clear hr0 hc0
  have H : (if a1 ≥ 0 then (some (decide (a1 < (l0.length : Int)))) else (some false)) = some r := h
  clear h
  by_cases c3 : a1 ≥ 0
  · rw [if_pos c3] at H
    have c3b0 : decide (0 ≤ a1) = true := decide_eq_true c3
    clear c3
    obtain rfl := Option.some.inj H
    go_enter Try.func106, Try.ntmps106
    go_wp2
    go_ret
    exact ⟨by first | rfl | (simp; done) | (simp [*]; done), by repeat (first | exact Drawn0.refl _ | apply Drawn0.step)⟩
  · rw [if_neg c3] at H
    have c3b0 : decide (0 ≤ a1) = false := decide_eq_false c3
    clear c3
    obtain rfl := Option.some.inj H
    go_enter Try.func106, Try.ntmps106
    go_wp2
    go_ret
    exact ⟨by first | rfl | (simp; done) | (simp [*]; done), by repeat (first | exact Drawn0.refl _ | apply Drawn0.step)⟩

/-! ### impl_lines: function 107 -/
def impl_lines.f (k : Nat) (l0 : List Int) (a1 : Int) : Option (Int × Int × Int) := if 0 ≤ a1 then (if a1 ≤ (l0.length : Int) then ((impl_product.f k (l0.take (a1 : Int).toNat)).bind fun t270 => (if a1 < (l0.length : Int) then (if 0 ≤ (wrap64 (a1 + 1)) then (if (wrap64 (a1 + 1)) ≤ (l0.length : Int) then ((impl_product.f k (l0.drop ((wrap64 (a1 + 1)) : Int).toNat)).bind fun t273 => (some (t270, rd l0 a1, t273))) else (none)) else (none)) else (none))) else (none)) else (none)
theorem impl_lines.mono : ∀ a0 a1 k, LeO (impl_lines.f k a0 a1) (impl_lines.f (k + 1) a0 a1) := by
  intro a0 a1 k
  unfold impl_lines.f
  repeat' first
      | (with_reducible exact impl_product.mono _ _)
      | (with_reducible exact LeO.refl _)
      | (with_reducible exact LeO.none _)
      | (with_reducible refine LeO.ite ?_ ?_)
      | (with_reducible refine LeO.bind ?_ (fun _ => ?_))
      | exact impl_product.mono _ _
      | exact LeO.none _
      | refine LeO.ite ?_ ?_
      | refine LeO.bind ?_ (fun _ => ?_)
set_option maxHeartbeats 8000000 in
set_option maxRecDepth 100000 in
theorem impl_lines.calls (k : Nat) (A0 : Option Addr) (c0 : Nat) (l0 : List Int) (a1 : Int) (r1 : Int) (r2 : Int) (r3 : Int) (w : World) (hr0 : Kd.C (Kd.int .i64) w A0 l0.length l0) (hc0 : l0.length ≤ c0) (h : impl_lines.f k l0 a1 = some (r1, r2, r3)) :
    Calls Try.prog 107 #[.slice A0 l0.length c0, .int .i64 a1] w fun e w' => e = .returned (.tuple #[.int .i64 r1, .int .i64 r2, .int .i64 r3]) ∧ Drawn0 w w' := by
  have HR0 := Aside0.mk hr0
  have HC0 := Aside0.mk hc0
  clear hr0 hc0
  have H : (if 0 ≤ a1 then (if a1 ≤ (l0.length : Int) then ((impl_product.f k (l0.take (a1 : Int).toNat)).bind fun t270 => (if a1 < (l0.length : Int) then (if 0 ≤ (wrap64 (a1 + 1)) then (if (wrap64 (a1 + 1)) ≤ (l0.length : Int) then ((impl_product.f k (l0.drop ((wrap64 (a1 + 1)) : Int).toNat)).bind fun t273 => (some (t270, rd l0 a1, t273))) else (none)) else (none)) else (none))) else (none)) else (none)) = some (r1, r2, r3) := h
  clear h
  by_cases c3 : 0 ≤ a1
  · rw [if_pos c3] at H
    have c3b0 := eq_true c3
    have c3b1 : decide (0 ≤ a1) = true := decide_eq_true c3
    clear c3
    by_cases c4 : a1 ≤ (l0.length : Int)
    · rw [if_pos c4] at H
      have c4b0 := eq_true c4
      have c4b1 : decide (a1 ≤ (l0.length : Int)) = true := decide_eq_true c4
      clear c4
      replace H := Option.bind_eq_some_iff.mp H
      obtain ⟨t270, A50, H⟩ := H
      replace H : (if a1 < (l0.length : Int) then (if 0 ≤ (wrap64 (a1 + 1)) then (if (wrap64 (a1 + 1)) ≤ (l0.length : Int) then ((impl_product.f k (l0.drop ((wrap64 (a1 + 1)) : Int).toNat)).bind fun t273 => (some (t270, rd l0 a1, t273))) else (none)) else (none)) else (none)) = some (r1, r2, r3) := H
      have A5 := Aside0.mk A50
      clear A50
      by_cases c6 : a1 < (l0.length : Int)
      · rw [if_pos c6] at H
        have c6b0 : decide (a1 < (l0.length : Int)) = true := decide_eq_true c6
        clear c6
        obtain ⟨ji7, hji7⟩ : ∃ j_ : Int, (wrap64 (a1 + 1)) = j_ := ⟨_, rfl⟩
        replace H : (if 0 ≤ (ji7) then (if (ji7) ≤ (l0.length : Int) then ((impl_product.f k (l0.drop ((ji7) : Int).toNat)).bind fun t273 => (some (t270, rd l0 a1, t273))) else (none)) else (none)) = some (r1, r2, r3) := by first | (rw [hji7] at H; exact H) | (simp only [hji7] at H ⊢; exact H)
        (try rw [hji7] at A5)
        have hji7w : (IntKind.i64.wrap (a1 + 1)) = ji7 := (i64_w _).trans hji7
        by_cases c8 : 0 ≤ (ji7)
        · rw [if_pos c8] at H
          have c8b0 := eq_true c8
          have c8b1 : decide (0 ≤ (ji7)) = true := decide_eq_true c8
          clear c8
          by_cases c9 : (ji7) ≤ (l0.length : Int)
          · rw [if_pos c9] at H
            have c9b0 := eq_true c9
            have c9b1 : decide ((ji7) ≤ (l0.length : Int)) = true := decide_eq_true c9
            clear c9
            replace H := Option.bind_eq_some_iff.mp H
            obtain ⟨t273, A100, H⟩ := H
            replace H : (some (t270, rd l0 a1, t273)) = some (r1, r2, r3) := H
            have A10 := Aside0.mk A100
            clear A100
            simp only [Option.some.injEq, Prod.mk.injEq] at H
            obtain ⟨rfl, rfl, rfl⟩ := H
            obtain ⟨i011, hi011, _, hsz11, _⟩ := info_parts info3
            obtain ⟨hcut11, hA11, hC11⟩ := print_take_of (P := Try.prog) (Value.int .i64) 0 29 3 .i64 Try.underlying29 hi011 hsz11 A0 c0 l0 a1 (of_decide_eq_true (by first | (with_reducible assumption) | assumption)) (of_decide_eq_true (by first | (with_reducible assumption) | assumption)) HC0.out
            have HR269 := Aside0.mk (Kd.C_of_reads (h1 := fun _ => rfl) (hA11 _ (Kd.reads_of_C HR0.out)))
            have HC269 := Aside0.mk hC11
            clear hA11 hC11 hi011 hsz11
            obtain ⟨yrow11, hyrow11⟩ : ∃ y_ : List Int, y_ = (l0.take (a1 : Int).toNat) := ⟨_, rfl⟩
            rw [← hyrow11] at hcut11 HR269
            (try rw [← hyrow11] at HC269)
            (try rw [← hyrow11] at H')
            (try rw [← hyrow11] at H)
            (try rw [← hyrow11] at A5)
            (try rw [← hyrow11] at A10)
            have Nyrow11 := Aside0.mk hyrow11
            clear hyrow11
            go_enter Try.func107, Try.ntmps107
            go_wp2_with (first | (go_at_call 101; (with_reducible refine (impl_product.calls k _ _ yrow11 t270 _ ?side1 ?side2 A5.out).mono ?_); (case side1 => repeat (first | exact HR269.out | (with_reducible refine Kd.C_alloc ?_ _) | (with_reducible refine Kd.C_drewN ?_ _) | (with_reducible refine Kd.C_drew ?_))); (case side2 => exact HC269.out); rintro e w' ⟨rfl, ⟨nd, rfl⟩⟩; (try first | exact ⟨rfl, _, World.drewN_drewN _ _ _⟩ | exact ⟨rfl, _, Eq.trans (World.drewN_drewN _ _ _) (congrArg (World.drewN _) (Nat.add_assoc _ _ _))⟩); have p271 : 0 ≤ (a1 : Int) := of_decide_eq_true (by first | (with_reducible assumption) | assumption); have q271 : a1 < (l0.length : Int) := of_decide_eq_true (by first | (with_reducible assumption) | assumption); obtain ⟨ad271, e271, hx271_0⟩ := Kd.at_int HR0.out a1 p271 q271; cases e271; replace p271 := eq_true p271; replace q271 := eq_true q271; obtain ⟨i012, hi012, _, hsz12, _⟩ := info_parts info3; obtain ⟨A12, hcut12, hA12, hC12⟩ := print_drop_of (P := Try.prog) (Value.int .i64) 0 29 3 .i64 Try.underlying29 hi012 hsz12 (some ad271) c0 l0 (ji7) (of_decide_eq_true (by first | (with_reducible assumption) | assumption)) (of_decide_eq_true (by first | (with_reducible assumption) | assumption)) HC0.out; have HR272 := Aside0.mk (Kd.C_of_reads (h1 := fun _ => rfl) (hA12 _ (Kd.reads_of_C HR0.out))); have HC272 := Aside0.mk hC12; clear hA12 hC12 hi012 hsz12; obtain ⟨yrow12, hyrow12⟩ : ∃ y_ : List Int, y_ = (l0.drop ((ji7) : Int).toNat) := ⟨_, rfl⟩; rw [← hyrow12] at hcut12 HR272; (try rw [← hyrow12] at HC272); (try rw [← hyrow12] at H'); (try rw [← hyrow12] at H); (try rw [← hyrow12] at A5); (try rw [← hyrow12] at A10); have Nyrow12 := Aside0.mk hyrow12; clear hyrow12) | (go_at_call 101; (with_reducible refine (impl_product.calls k _ _ yrow12 t273 _ ?side1 ?side2 A10.out).mono ?_); (case side1 => repeat (first | exact HR272.out | (with_reducible refine Kd.C_alloc ?_ _) | (with_reducible refine Kd.C_drewN ?_ _) | (with_reducible refine Kd.C_drew ?_))); (case side2 => exact HC272.out); rintro e w' ⟨rfl, ⟨nd, rfl⟩⟩; (try first | exact ⟨rfl, _, World.drewN_drewN _ _ _⟩ | exact ⟨rfl, _, Eq.trans (World.drewN_drewN _ _ _) (congrArg (World.drewN _) (Nat.add_assoc _ _ _))⟩)))
            repeat (go_quiet (first | (go_at_call 101; (with_reducible refine (impl_product.calls k _ _ yrow11 t270 _ ?side1 ?side2 A5.out).mono ?_); (case side1 => repeat (first | exact HR269.out | (with_reducible refine Kd.C_alloc ?_ _) | (with_reducible refine Kd.C_drewN ?_ _) | (with_reducible refine Kd.C_drew ?_))); (case side2 => exact HC269.out); rintro e w' ⟨rfl, ⟨nd, rfl⟩⟩; (try first | exact ⟨rfl, _, World.drewN_drewN _ _ _⟩ | exact ⟨rfl, _, Eq.trans (World.drewN_drewN _ _ _) (congrArg (World.drewN _) (Nat.add_assoc _ _ _))⟩); have p271 : 0 ≤ (a1 : Int) := of_decide_eq_true (by first | (with_reducible assumption) | assumption); have q271 : a1 < (l0.length : Int) := of_decide_eq_true (by first | (with_reducible assumption) | assumption); obtain ⟨ad271, e271, hx271_0⟩ := Kd.at_int HR0.out a1 p271 q271; cases e271; replace p271 := eq_true p271; replace q271 := eq_true q271; obtain ⟨i012, hi012, _, hsz12, _⟩ := info_parts info3; obtain ⟨A12, hcut12, hA12, hC12⟩ := print_drop_of (P := Try.prog) (Value.int .i64) 0 29 3 .i64 Try.underlying29 hi012 hsz12 (some ad271) c0 l0 (ji7) (of_decide_eq_true (by first | (with_reducible assumption) | assumption)) (of_decide_eq_true (by first | (with_reducible assumption) | assumption)) HC0.out; have HR272 := Aside0.mk (Kd.C_of_reads (h1 := fun _ => rfl) (hA12 _ (Kd.reads_of_C HR0.out))); have HC272 := Aside0.mk hC12; clear hA12 hC12 hi012 hsz12; obtain ⟨yrow12, hyrow12⟩ : ∃ y_ : List Int, y_ = (l0.drop ((ji7) : Int).toNat) := ⟨_, rfl⟩; rw [← hyrow12] at hcut12 HR272; (try rw [← hyrow12] at HC272); (try rw [← hyrow12] at H'); (try rw [← hyrow12] at H); (try rw [← hyrow12] at A5); (try rw [← hyrow12] at A10); have Nyrow12 := Aside0.mk hyrow12; clear hyrow12) | (go_at_call 101; (with_reducible refine (impl_product.calls k _ _ yrow12 t273 _ ?side1 ?side2 A10.out).mono ?_); (case side1 => repeat (first | exact HR272.out | (with_reducible refine Kd.C_alloc ?_ _) | (with_reducible refine Kd.C_drewN ?_ _) | (with_reducible refine Kd.C_drew ?_))); (case side2 => exact HC272.out); rintro e w' ⟨rfl, ⟨nd, rfl⟩⟩; (try first | exact ⟨rfl, _, World.drewN_drewN _ _ _⟩ | exact ⟨rfl, _, Eq.trans (World.drewN_drewN _ _ _) (congrArg (World.drewN _) (Nat.add_assoc _ _ _))⟩))); try go_wp2_with (first | (go_at_call 101; (with_reducible refine (impl_product.calls k _ _ yrow11 t270 _ ?side1 ?side2 A5.out).mono ?_); (case side1 => repeat (first | exact HR269.out | (with_reducible refine Kd.C_alloc ?_ _) | (with_reducible refine Kd.C_drewN ?_ _) | (with_reducible refine Kd.C_drew ?_))); (case side2 => exact HC269.out); rintro e w' ⟨rfl, ⟨nd, rfl⟩⟩; (try first | exact ⟨rfl, _, World.drewN_drewN _ _ _⟩ | exact ⟨rfl, _, Eq.trans (World.drewN_drewN _ _ _) (congrArg (World.drewN _) (Nat.add_assoc _ _ _))⟩); have p271 : 0 ≤ (a1 : Int) := of_decide_eq_true (by first | (with_reducible assumption) | assumption); have q271 : a1 < (l0.length : Int) := of_decide_eq_true (by first | (with_reducible assumption) | assumption); obtain ⟨ad271, e271, hx271_0⟩ := Kd.at_int HR0.out a1 p271 q271; cases e271; replace p271 := eq_true p271; replace q271 := eq_true q271; obtain ⟨i012, hi012, _, hsz12, _⟩ := info_parts info3; obtain ⟨A12, hcut12, hA12, hC12⟩ := print_drop_of (P := Try.prog) (Value.int .i64) 0 29 3 .i64 Try.underlying29 hi012 hsz12 (some ad271) c0 l0 (ji7) (of_decide_eq_true (by first | (with_reducible assumption) | assumption)) (of_decide_eq_true (by first | (with_reducible assumption) | assumption)) HC0.out; have HR272 := Aside0.mk (Kd.C_of_reads (h1 := fun _ => rfl) (hA12 _ (Kd.reads_of_C HR0.out))); have HC272 := Aside0.mk hC12; clear hA12 hC12 hi012 hsz12; obtain ⟨yrow12, hyrow12⟩ : ∃ y_ : List Int, y_ = (l0.drop ((ji7) : Int).toNat) := ⟨_, rfl⟩; rw [← hyrow12] at hcut12 HR272; (try rw [← hyrow12] at HC272); (try rw [← hyrow12] at H'); (try rw [← hyrow12] at H); (try rw [← hyrow12] at A5); (try rw [← hyrow12] at A10); have Nyrow12 := Aside0.mk hyrow12; clear hyrow12) | (go_at_call 101; (with_reducible refine (impl_product.calls k _ _ yrow12 t273 _ ?side1 ?side2 A10.out).mono ?_); (case side1 => repeat (first | exact HR272.out | (with_reducible refine Kd.C_alloc ?_ _) | (with_reducible refine Kd.C_drewN ?_ _) | (with_reducible refine Kd.C_drew ?_))); (case side2 => exact HC272.out); rintro e w' ⟨rfl, ⟨nd, rfl⟩⟩; (try first | exact ⟨rfl, _, World.drewN_drewN _ _ _⟩ | exact ⟨rfl, _, Eq.trans (World.drewN_drewN _ _ _) (congrArg (World.drewN _) (Nat.add_assoc _ _ _))⟩))))
            go_ret3
            exact ⟨by first | rfl | (simp; done) | (simp only [← hji7] <;> (first | rfl | simp)) | (simp [*]; done), by repeat (first | exact Drawn0.refl _ | apply Drawn0.step)⟩
          · rw [if_neg c9] at H
            exact absurd H (by simp)
        · rw [if_neg c8] at H
          exact absurd H (by simp)
      · rw [if_neg c6] at H
        exact absurd H (by simp)
    · rw [if_neg c4] at H
      exact absurd H (by simp)
  · rw [if_neg c3] at H
    exact absurd H (by simp)

end Go.Proofs.Ytcpemdedmepfead.PFnExactNormalise
