/- The pure statement of FnExactFactor: program and reference tell the same factor and shift. -/
import Derived.Test.YtkgknnhecbbfgaaPFnExactFactorx5
import Derived.Test.YtkgknnhecbbfgaaBase
import Derived.Laws.MathBits
import Derived.Lib.Mul64
import Derived.Laws.Bits64

namespace Go.Proofs.Ytkgknnhecbbfgaa.PureFnExactFactor
set_option linter.unusedVariables false
set_option linter.unusedSimpArgs false
open Go.RowKit Go.Proofs.Ytkgknnhecbbfgaa.PFnExactFactor Go.Proofs.YtkgknnhecbbfgaaW.PrintWords Go.Proofs.YtkgknnhecbbfgaaW.PrintLast Go.Proofs.YtkgknnhecbbfgaaW.PrintMore Go.Proofs.Ytkgknnhecbbfgaa.Base 
/-! ### long division of 128 bits by 64 -/
theorem u64w (n : Int) : IntKind.u64.wrap n = n % 18446744073709551616 := IntKind.wrap_u64 n
theorem u64_id {n : Int} (h0 : 0 ≤ n) (h1 : n < 18446744073709551616) : IntKind.u64.wrap n = n := by
  rw [u64w]
  omega
/-- What a divisor of 64 bits is, in halves. -/
structure Dv (Y v1 v0 : Int) : Prop where
  e : Y = v1 * 4294967296 + v0
  a : 0 ≤ v0
  b : v0 < 4294967296
  c : 2147483648 ≤ v1
  d : v1 < 4294967296
/-- A guess at the quotient: not too small; what is left by the upper half. -/
structure Gs (Y v1 v0 U u q r : Int) : Prop where
  q0 : 0 ≤ q
  q1 : q ≤ 4294967297
  r0 : 0 ≤ r
  r1 : r < 4294967296
  e : r = U - q * v1
  t : U * 4294967296 + u < (q + 1) * Y
theorem mulY {Y v1 v0 : Int} (D : Dv Y v1 v0) (q : Int) : q * Y = q * v1 * 4294967296 + q * v0 := by
  rw [D.e, Int.mul_add, Int.mul_assoc]
theorem gs_start {Y v1 v0 U u : Int} (D : Dv Y v1 v0) (h0 : 0 ≤ U) (h1 : U < Y) (u0 : 0 ≤ u) (u1 : u < 4294967296) : Gs Y v1 v0 U u (U / v1) (U - U / v1 * v1) := by
  have c := D.c
  have e := Int.mul_ediv_add_emod U v1
  have m0 := Int.emod_nonneg U (show v1 ≠ 0 by omega)
  have m1 := Int.emod_lt_of_pos U (show 0 < v1 by omega)
  have hq : 0 ≤ U / v1 := Int.ediv_nonneg h0 (by omega)
  have cm : v1 * (U / v1) = U / v1 * v1 := Int.mul_comm _ _
  have hy := mulY D (U / v1)
  have hz : 0 ≤ U / v1 * v0 := Int.mul_nonneg hq D.a
  refine ⟨hq, ?_, by omega, by have := D.d; omega, rfl, ?_⟩
  · have h2 : U < v1 * 4294967298 := by have := D.e; have := D.b; omega
    have h3 : v1 * (U / v1) < v1 * 4294967298 := by omega
    have := Int.lt_of_mul_lt_mul_left h3 (by omega)
    omega
  · rw [Int.add_mul, Int.one_mul, hy]
    have := D.e
    have := D.a
    omega
theorem gs_big {Y v1 v0 U u q : Int} (D : Dv Y v1 v0) (h0 : 0 ≤ U) (h1 : U < Y) (u1 : u < 4294967296) (h : 4294967296 ≤ q) : U * 4294967296 + u < q * Y := by
  have h2 : 4294967296 * Y ≤ q * Y := Int.mul_le_mul_of_nonneg_right h (by omega)
  omega
/-- One less. -/
theorem gs_down {Y v1 v0 U u q r : Int} (D : Dv Y v1 v0) (G : Gs Y v1 v0 U u q r) (h0 : 0 ≤ U) (u0 : 0 ≤ u) (h : U * 4294967296 + u < q * Y) :
    0 ≤ q - 1 ∧ r + v1 = U - (q - 1) * v1 ∧ U * 4294967296 + u < (q - 1 + 1) * Y := by
  have hq : q ≠ 0 := by
    intro e
    rw [e, Int.zero_mul] at h
    omega
  have := G.q0
  have e := G.e
  refine ⟨by omega, ?_, ?_⟩
  · rw [Int.sub_mul, Int.one_mul]
    omega
  · rw [show q - 1 + 1 = q by omega]
    exact h
theorem gs_break {Y v1 v0 U u q r : Int} (D : Dv Y v1 v0) (u0 : 0 ≤ u) (q0 : 0 ≤ q) (q1 : q ≤ 4294967296) (e : r = U - q * v1) (h : 4294967296 ≤ r) : q * Y ≤ U * 4294967296 + u := by
  have hy := mulY D q
  have h1 : q * v0 ≤ 4294967296 * v0 := Int.mul_le_mul_of_nonneg_right q1 D.a
  have := D.b
  have : 4294967296 * v0 ≤ 4294967296 * 4294967296 := by omega
  omega
theorem gs_test {Y v1 v0 U u q r : Int} (D : Dv Y v1 v0) (G : Gs Y v1 v0 U u q r) (u0 : 0 ≤ u) (u1 : u < 4294967296) (h : q < 4294967296) :
    (IntKind.u64.wrap (q * v0) > IntKind.u64.wrap ((IntKind.u64.wrap (4294967296 * r)) + u)) ↔ U * 4294967296 + u < q * Y := by
  have hy := mulY D q
  have h1 : q * v0 ≤ 4294967295 * v0 := Int.mul_le_mul_of_nonneg_right (by omega) D.a
  have h2 : 0 ≤ q * v0 := Int.mul_nonneg G.q0 D.a
  have := D.b
  have := G.e
  have := G.r0
  have := G.r1
  rw [u64_id h2 (by omega), u64_id (n := 4294967296 * r) (by omega) (by omega), u64_id (n := 4294967296 * r + u) (by omega) (by omega)]
  omega
/-- The rest, reckoned by wrapping numbers. -/
theorem rest_of {Y U u q : Int} (h0 : 0 ≤ U * 4294967296 + u - q * Y) (h1 : U * 4294967296 + u - q * Y < 18446744073709551616) :
    IntKind.u64.wrap ((IntKind.u64.wrap ((IntKind.u64.wrap (U * 4294967296)) + u)) - (IntKind.u64.wrap (q * Y))) = U * 4294967296 + u - q * Y := by
  simp only [u64w]
  omega
theorem second_l (Y v1 v0 s q1 U u : Int) (D : Dv Y v1 v0) (hs : 0 ≤ s) (h0 : 0 ≤ U) (h1 : U < Y) (u0 : 0 ≤ u) (u1 : u < 4294967296) : ∀ (n : Nat) (q r : Int), Gs Y v1 v0 U u q r → 4294967296 ≤ r + n * 2147483648 →
    ∃ p, Ev (fun k => bits_Div64.l1 k Y s v1 v0 u q1 r U q) (IntKind.u64.wrap ((IntKind.u64.wrap (q1 * 4294967296)) + p), shr .u64 (U * 4294967296 + u - p * Y) s) ∧ 0 ≤ p ∧ p < 4294967296 ∧ 0 ≤ U * 4294967296 + u - p * Y ∧ U * 4294967296 + u - p * Y < Y := by
  have hY : Y < 18446744073709551616 := by have := D.e; have := D.b; have := D.d; omega
  intro n
  induction n with
  | zero => intro q r G h; have := G.r1; omega
  | succ n ih =>
    intro q r G h
    have stop : q < 4294967296 → ¬ (U * 4294967296 + u < q * Y) → ∃ p, Ev (fun k => bits_Div64.j4 k Y s v1 v0 u q1 r U q false) (IntKind.u64.wrap ((IntKind.u64.wrap (q1 * 4294967296)) + p), shr .u64 (U * 4294967296 + u - p * Y) s) ∧ 0 ≤ p ∧ p < 4294967296 ∧ 0 ≤ U * 4294967296 + u - p * Y ∧ U * 4294967296 + u - p * Y < Y := by
      intro hq hn
      have t := G.t
      rw [Int.add_mul, Int.one_mul] at t
      refine ⟨q, Ev.succ ?_, G.q0, hq, by omega, by omega⟩
      simp only [bits_Div64.j4]
      refine Ev.neg (by simp) (Ev.pos hs (Ev.some ?_))
      rw [rest_of (by omega) (by omega)]
    have more : U * 4294967296 + u < q * Y → ∃ p, Ev (fun k => bits_Div64.j4 k Y s v1 v0 u q1 r U q true) (IntKind.u64.wrap ((IntKind.u64.wrap (q1 * 4294967296)) + p), shr .u64 (U * 4294967296 + u - p * Y) s) ∧ 0 ≤ p ∧ p < 4294967296 ∧ 0 ≤ U * 4294967296 + u - p * Y ∧ U * 4294967296 + u - p * Y < Y := by
      intro hm
      obtain ⟨d1, d2, d3⟩ := gs_down D G h0 u0 hm
      have := G.q1
      have := G.r0
      have := G.r1
      have := D.d
      have := D.c
      have wq : IntKind.u64.wrap (q - 1) = q - 1 := u64_id d1 (by omega)
      have wr : IntKind.u64.wrap (r + v1) = r + v1 := u64_id (by omega) (by omega)
      by_cases hb : r + v1 ≥ 4294967296
      · have b := gs_break D u0 d1 (by omega) d2 hb
        have lt : q - 1 < 4294967296 := by
          by_cases e : q - 1 < 4294967296
          · exact e
          · have := gs_big D h0 h1 u1 (show 4294967296 ≤ q - 1 by omega)
            omega
        rw [Int.add_mul, Int.one_mul] at d3
        refine ⟨q - 1, Ev.succ ?_, d1, lt, by omega, by omega⟩
        simp only [bits_Div64.j4]
        rw [wr, wq]
        refine Ev.pos (by trivial) (Ev.pos hb (Ev.pos hs (Ev.some ?_)))
        rw [rest_of (by omega) (by omega)]
      · obtain ⟨p, e, hp⟩ := ih (q - 1) (r + v1) ⟨d1, by omega, by omega, by omega, d2, d3⟩ (by omega)
        refine ⟨p, Ev.succ ?_, hp⟩
        simp only [bits_Div64.j4]
        rw [wr, wq]
        exact Ev.pos (by trivial) (Ev.neg hb e)
    by_cases hq : q ≥ 4294967296
    · obtain ⟨p, e, hp⟩ := more (gs_big D h0 h1 u1 hq)
      refine ⟨p, Ev.succ ?_, hp⟩
      simp only [bits_Div64.l1]
      exact Ev.pos hq e
    · have ts := gs_test D G u0 u1 (by omega)
      by_cases hm : U * 4294967296 + u < q * Y
      · obtain ⟨p, e, hp⟩ := more hm
        refine ⟨p, Ev.succ ?_, hp⟩
        simp only [bits_Div64.l1]
        rw [decide_eq_true (ts.2 hm)]
        exact Ev.neg hq e
      · obtain ⟨p, e, hp⟩ := stop (by omega) hm
        refine ⟨p, Ev.succ ?_, hp⟩
        simp only [bits_Div64.l1]
        rw [decide_eq_false (fun hh => hm (ts.1 hh))]
        exact Ev.neg hq e
theorem between (Y v1 v0 s q1 U u u' : Int) (D : Dv Y v1 v0) (hs : 0 ≤ s) (u0 : 0 ≤ u') (u1 : u' < 4294967296) (p0 : 0 ≤ U * 4294967296 + u - q1 * Y) (p1 : U * 4294967296 + u - q1 * Y < Y) :
    ∃ p, Ev (fun k => bits_Div64.j2 k Y s v1 v0 U u u' q1) (IntKind.u64.wrap ((IntKind.u64.wrap (q1 * 4294967296)) + p), shr .u64 ((U * 4294967296 + u - q1 * Y) * 4294967296 + u' - p * Y) s) ∧ 0 ≤ p ∧ p < 4294967296 ∧ 0 ≤ (U * 4294967296 + u - q1 * Y) * 4294967296 + u' - p * Y ∧ (U * 4294967296 + u - q1 * Y) * 4294967296 + u' - p * Y < Y := by
  have hY : Y < 18446744073709551616 := by have := D.e; have := D.b; have := D.d; omega
  have c := D.c
  have w := rest_of p0 (by omega)
  generalize U * 4294967296 + u - q1 * Y = R at *
  have g := gs_start D p0 p1 u0 u1
  obtain ⟨p, e, hp⟩ := second_l Y v1 v0 s q1 R u' D hs p0 p1 u0 u1 2 _ _ g (by have := g.r0; omega)
  refine ⟨p, Ev.succ ?_, hp⟩
  simp only [bits_Div64.j2]
  have q0 := g.q0
  have q1' := g.q1
  have hp0 : 0 ≤ R / v1 * v1 := Int.mul_nonneg q0 (by omega)
  have r0 := g.r0
  rw [w, Int.tdiv_eq_ediv_of_nonneg p0, u64_id (n := R / v1) q0 (by omega), u64_id (n := R / v1 * v1) hp0 (by omega), u64_id (n := R - R / v1 * v1) r0 (by have := g.r1; omega)]
  exact Ev.neg (by omega) e
theorem first_l (Y v1 v0 s U u u' : Int) (D : Dv Y v1 v0) (hs : 0 ≤ s) (h0 : 0 ≤ U) (h1 : U < Y) (u0 : 0 ≤ u) (u1 : u < 4294967296) (u0' : 0 ≤ u') (u1' : u' < 4294967296) : ∀ (n : Nat) (q r : Int), Gs Y v1 v0 U u q r → 4294967296 ≤ r + n * 2147483648 →
    ∃ q1 p, Ev (fun k => bits_Div64.l0 k Y s v1 v0 U u u' q r) (IntKind.u64.wrap ((IntKind.u64.wrap (q1 * 4294967296)) + p), shr .u64 ((U * 4294967296 + u - q1 * Y) * 4294967296 + u' - p * Y) s) ∧ 0 ≤ q1 ∧ q1 < 4294967296 ∧ 0 ≤ p ∧ p < 4294967296 ∧ 0 ≤ (U * 4294967296 + u - q1 * Y) * 4294967296 + u' - p * Y ∧ (U * 4294967296 + u - q1 * Y) * 4294967296 + u' - p * Y < Y := by
  intro n
  induction n with
  | zero => intro q r G h; have := G.r1; omega
  | succ n ih =>
    intro q r G h
    have stop : q < 4294967296 → ¬ (U * 4294967296 + u < q * Y) → ∃ q1 p, Ev (fun k => bits_Div64.j1 k Y s v1 v0 U u u' q r false) (IntKind.u64.wrap ((IntKind.u64.wrap (q1 * 4294967296)) + p), shr .u64 ((U * 4294967296 + u - q1 * Y) * 4294967296 + u' - p * Y) s) ∧ 0 ≤ q1 ∧ q1 < 4294967296 ∧ 0 ≤ p ∧ p < 4294967296 ∧ 0 ≤ (U * 4294967296 + u - q1 * Y) * 4294967296 + u' - p * Y ∧ (U * 4294967296 + u - q1 * Y) * 4294967296 + u' - p * Y < Y := by
      intro hq hn
      have t := G.t
      rw [Int.add_mul, Int.one_mul] at t
      obtain ⟨p, e, hp⟩ := between Y v1 v0 s q U u u' D hs u0' u1' (by omega) (by omega)
      refine ⟨q, p, Ev.succ ?_, G.q0, hq, hp⟩
      simp only [bits_Div64.j1]
      exact Ev.neg (by simp) e
    have more : U * 4294967296 + u < q * Y → ∃ q1 p, Ev (fun k => bits_Div64.j1 k Y s v1 v0 U u u' q r true) (IntKind.u64.wrap ((IntKind.u64.wrap (q1 * 4294967296)) + p), shr .u64 ((U * 4294967296 + u - q1 * Y) * 4294967296 + u' - p * Y) s) ∧ 0 ≤ q1 ∧ q1 < 4294967296 ∧ 0 ≤ p ∧ p < 4294967296 ∧ 0 ≤ (U * 4294967296 + u - q1 * Y) * 4294967296 + u' - p * Y ∧ (U * 4294967296 + u - q1 * Y) * 4294967296 + u' - p * Y < Y := by
      intro hm
      obtain ⟨d1, d2, d3⟩ := gs_down D G h0 u0 hm
      have := G.q1
      have := G.r0
      have := G.r1
      have := D.d
      have := D.c
      have wq : IntKind.u64.wrap (q - 1) = q - 1 := u64_id d1 (by omega)
      have wr : IntKind.u64.wrap (r + v1) = r + v1 := u64_id (by omega) (by omega)
      by_cases hb : r + v1 ≥ 4294967296
      · have b := gs_break D u0 d1 (by omega) d2 hb
        have lt : q - 1 < 4294967296 := by
          by_cases e : q - 1 < 4294967296
          · exact e
          · have := gs_big D h0 h1 u1 (show 4294967296 ≤ q - 1 by omega)
            omega
        rw [Int.add_mul, Int.one_mul] at d3
        obtain ⟨p, e, hp⟩ := between Y v1 v0 s (q - 1) U u u' D hs u0' u1' (by omega) (by omega)
        refine ⟨q - 1, p, Ev.succ ?_, d1, lt, hp⟩
        simp only [bits_Div64.j1]
        rw [wr, wq]
        exact Ev.pos (by trivial) (Ev.pos hb e)
      · obtain ⟨q1, p, e, hp⟩ := ih (q - 1) (r + v1) ⟨d1, by omega, by omega, by omega, d2, d3⟩ (by omega)
        refine ⟨q1, p, Ev.succ ?_, hp⟩
        simp only [bits_Div64.j1]
        rw [wr, wq]
        exact Ev.pos (by trivial) (Ev.neg hb e)
    by_cases hq : q ≥ 4294967296
    · obtain ⟨q1, p, e, hp⟩ := more (gs_big D h0 h1 u1 hq)
      refine ⟨q1, p, Ev.succ ?_, hp⟩
      simp only [bits_Div64.l0]
      exact Ev.pos hq e
    · have ts := gs_test D G u0 u1 (by omega)
      by_cases hm : U * 4294967296 + u < q * Y
      · obtain ⟨q1, p, e, hp⟩ := more hm
        refine ⟨q1, p, Ev.succ ?_, hp⟩
        simp only [bits_Div64.l0]
        rw [decide_eq_true (ts.2 hm)]
        exact Ev.neg hq e
      · obtain ⟨q1, p, e, hp⟩ := stop (by omega) hm
        refine ⟨q1, p, Ev.succ ?_, hp⟩
        simp only [bits_Div64.l0]
        rw [decide_eq_false (fun hh => hm (ts.1 hh))]
        exact Ev.neg hq e
/-! the shifted operands -/
theorem and_mask64 (n : Int) (h0 : 0 ≤ n) (h1 : n < 18446744073709551616) : Go.bits .and .u64 n 4294967295 = n % 4294967296 := Go.and_low32 n h0 h1

theorem shl_id (x : Int) (s : Nat) (hs : s ≤ 64) (h0 : 0 ≤ x) (h1 : x * (2 ^ s : Nat) < 18446744073709551616) : shl .u64 x (s : Int) = x * (2 ^ s : Nat) := by
  unfold shl
  have e : min ((s : Int)).toNat IntKind.u64.bits = s := by
    show min ((s : Int)).toNat 64 = s
    omega
  have c : ((2 : Int) ^ s) = ((2 ^ s : Nat) : Int) := (Int.natCast_pow 2 s).symm
  rw [e, c]
  exact u64_id (Int.mul_nonneg h0 (Int.natCast_nonneg _)) h1
theorem p64 : (2 : Int) ^ 64 = 18446744073709551616 := by decide +kernel
theorem shl_mod (x : Int) (s : Nat) (hs : s ≤ 64) : shl .u64 x (s : Int) = x * (2 ^ s : Nat) % 18446744073709551616 := by
  unfold shl
  have e : min ((s : Int)).toNat IntKind.u64.bits = s := by
    show min ((s : Int)).toNat 64 = s
    omega
  have c : ((2 : Int) ^ s) = ((2 ^ s : Nat) : Int) := (Int.natCast_pow 2 s).symm
  rw [e, c, u64w]
theorem shr_div (x : Int) (s : Nat) (hs : s ≤ 64) : shr .u64 x (s : Int) = x / (2 ^ s : Nat) := by
  unfold shr
  have e : min ((s : Int)).toNat IntKind.u64.bits = s := by
    show min ((s : Int)).toNat 64 = s
    omega
  have c : ((2 : Int) ^ s) = ((2 ^ s : Nat) : Int) := (Int.natCast_pow 2 s).symm
  rw [e, c]
theorem bitLen_bounds (x : Nat) (h0 : x ≠ 0) (h1 : x < 18446744073709551616) : 1 ≤ Go.Lib.bitLen x ∧ Go.Lib.bitLen x ≤ 64 ∧ x < 2 ^ Go.Lib.bitLen x ∧ 2 ^ (Go.Lib.bitLen x) ≤ 2 * x := by
  have key : ∀ (n x : Nat), x ≠ 0 → x < 2 ^ n → n ≤ 64 → 1 ≤ Go.Lib.bitLen x ∧ Go.Lib.bitLen x ≤ n ∧ x < 2 ^ Go.Lib.bitLen x ∧ 2 ^ (Go.Lib.bitLen x) ≤ 2 * x := by
    intro n
    induction n with
    | zero => intro x h0 h1 _; simp at h1; omega
    | succ n ih =>
      intro x h0 h1 hn
      have hx : x < 2 ^ 64 := Nat.lt_of_lt_of_le h1 (Nat.pow_le_pow_right (by decide) hn)
      have hh := Go.Lib.bitLen_half x h0 hx
      by_cases e : x / 2 = 0
      · have e1 : x = 1 := by omega
        subst e1
        have : Go.Lib.bitLen 1 = 1 := by decide +kernel
        rw [this]
        simp
      · have hp : 2 ^ (n + 1) = 2 ^ n * 2 := Nat.pow_succ 2 n
        obtain ⟨i1, i2, i3, i4⟩ := ih (x / 2) e (by omega) (by omega)
        have hp' : 2 ^ (1 + Go.Lib.bitLen (x / 2)) = 2 * 2 ^ Go.Lib.bitLen (x / 2) := by rw [Nat.pow_add]
        rw [hh, hp']
        omega
  obtain ⟨a, b, c, d⟩ := key 64 x h0 h1 (by omega)
  exact ⟨a, b, c, d⟩
/-- The quotient and the rest of a number of 128 bits. -/
theorem div64_ev (hi lo y : Int) (h0 : 0 ≤ hi) (h1 : hi < y) (l0 : 0 ≤ lo) (l1 : lo < 18446744073709551616) (hy : y < 18446744073709551616) :
    Ev (fun k => bits_Div64.f k hi lo y) ((hi * 18446744073709551616 + lo) / y, (hi * 18446744073709551616 + lo) % y) := by
  unfold bits_Div64.f
  refine Ev.neg (by omega) (Ev.neg (by omega) ?_)
  by_cases hz : hi = 0
  · subst hz
    refine Ev.pos rfl (Ev.some ?_)
    have p : 0 ≤ lo / y := Int.ediv_nonneg l0 (by omega)
    have q : lo / y ≤ lo := Int.ediv_le_self _ l0
    rw [Int.tdiv_eq_ediv_of_nonneg l0, Int.tmod_eq_emod_of_nonneg l0, u64_id p (by omega)]
    simp
  · refine Ev.neg hz ?_
    obtain ⟨b1, b2, b3, b4⟩ := bitLen_bounds y.toNat (by omega) (by omega)
    generalize hb : Go.Lib.bitLen y.toNat = b at *
    have lz : bits_LeadingZeros64.f y = some (64 - (b : Int)) := by
      unfold bits_LeadingZeros64.f
      rw [if_pos (by omega), if_pos (by omega), hb]
    refine Ev.b lz ?_
    obtain ⟨s, hs⟩ : ∃ s : Nat, s = 64 - b := ⟨_, rfl⟩
    have e1 : (64 - (b : Int)) = (s : Int) := by omega
    have e2 : IntKind.u64.wrap (s : Int) = (s : Int) := u64_id (by omega) (by omega)
    have e3 : IntKind.u64.wrap (64 - (s : Int)) = ((64 - s : Nat) : Int) := by rw [u64_id (by omega) (by omega)]; omega
    rw [e1, e2, e3]
    have pw : (2 : Nat) ^ s * 2 ^ b = 18446744073709551616 := by
      rw [← Nat.pow_add, show s + b = 64 by omega]
    have ps : 0 < (2 : Nat) ^ s := Nat.pow_pos (by decide)
    have pc : (2 : Nat) ^ s * 2 ^ (64 - s) = 18446744073709551616 := by
      rw [← Nat.pow_add, show s + (64 - s) = 64 by omega]
    have ps' : 0 < (2 : Nat) ^ (64 - s) := Nat.pow_pos (by decide)
    -- the divisor
    obtain ⟨Y, hY⟩ : ∃ Y : Int, Y = y * (2 ^ s : Nat) := ⟨_, rfl⟩
    have y1 : y * ((2 ^ s : Nat) : Int) < 18446744073709551616 := by
      have : y.toNat * 2 ^ s < 2 ^ b * 2 ^ s := Nat.mul_lt_mul_of_pos_right b3 ps
      rw [Nat.mul_comm (2 ^ b), pw] at this
      have c := Int.ofNat_lt.2 this
      rw [Int.natCast_mul, Int.toNat_of_nonneg (by omega)] at c
      omega
    have y2 : 18446744073709551616 ≤ 2 * (y * ((2 ^ s : Nat) : Int)) := by
      have : 2 ^ b * 2 ^ s ≤ 2 * y.toNat * 2 ^ s := Nat.mul_le_mul_right _ b4
      rw [Nat.mul_comm (2 ^ b), pw, Nat.mul_assoc] at this
      have c := Int.ofNat_le.2 this
      rw [Int.natCast_mul, Int.natCast_mul, Int.toNat_of_nonneg (by omega)] at c
      omega
    rw [shl_id y s (by omega) (by omega) y1, ← hY]
    rw [← hY] at y1 y2
    have mk := fun (n : Int) => and_mask64 n
    rw [mk Y (by omega) y1]
    have D : Dv Y (Y / 4294967296) (Y % 4294967296) := ⟨by omega, by omega, by omega, by omega, by omega⟩
    -- the dividend
    have a1 : hi * ((2 ^ s : Nat) : Int) < 18446744073709551616 := by
      have : hi * ((2 ^ s : Nat) : Int) ≤ y * ((2 ^ s : Nat) : Int) := Int.mul_le_mul_of_nonneg_right (by omega) (by omega)
      omega
    rw [shl_id hi s (by omega) h0 a1, shr_div lo (64 - s) (by omega), shl_mod lo s (by omega)]
    have lq : lo / ((2 ^ (64 - s) : Nat) : Int) < ((2 ^ s : Nat) : Int) := by
      refine Int.ediv_lt_of_lt_mul (by omega) ?_
      have : (((2 ^ s * 2 ^ (64 - s) : Nat)) : Int) = 18446744073709551616 := by rw [pc]; rfl
      rw [Int.natCast_mul] at this
      omega
    have lq0 : 0 ≤ lo / ((2 ^ (64 - s) : Nat) : Int) := Int.ediv_nonneg l0 (by omega)
    have join : Go.bits .or .u64 (hi * ((2 ^ s : Nat) : Int)) (lo / ((2 ^ (64 - s) : Nat) : Int)) = hi * ((2 ^ s : Nat) : Int) + lo / ((2 ^ (64 - s) : Nat) : Int) := by
      have c : ((2 : Int) ^ s) = ((2 ^ s : Nat) : Int) := (Int.natCast_pow 2 s).symm
      refine Go.bits_join .u64 64 (by decide) (fun n hn hn' => u64_id hn (by rw [p64] at hn'; exact hn')) s _ _ (Int.mul_nonneg h0 (by omega)) ?_ (by rw [p64]; exact a1) lq0 (by rw [c]; exact lq) ?_
      · rw [c]
        exact Int.mul_emod_left _ _
      · have : ((2 ^ s : Nat) : Int) ≤ 18446744073709551616 := by
          have := Nat.pow_le_pow_right (show 0 < 2 by decide) (show s ≤ 64 by omega)
          omega
        rw [p64]
        omega
    rw [join]
    obtain ⟨U, hU⟩ : ∃ U : Int, U = hi * ((2 ^ s : Nat) : Int) + lo / ((2 ^ (64 - s) : Nat) : Int) := ⟨_, rfl⟩
    obtain ⟨L, hL⟩ : ∃ L : Int, L = lo * ((2 ^ s : Nat) : Int) % 18446744073709551616 := ⟨_, rfl⟩
    rw [← hU, ← hL]
    have L0 : 0 ≤ L := by omega
    have L1 : L < 18446744073709551616 := by omega
    rw [mk L L0 L1]
    have key : U * 18446744073709551616 + L = (hi * 18446744073709551616 + lo) * ((2 ^ s : Nat) : Int) := by
      have q : lo * ((2 ^ s : Nat) : Int) / 18446744073709551616 = lo / ((2 ^ (64 - s) : Nat) : Int) := by
        have : (18446744073709551616 : Int) = ((2 ^ (64 - s) : Nat) : Int) * ((2 ^ s : Nat) : Int) := by
          have := congrArg (fun n : Nat => (n : Int)) pc
          simp only [Int.natCast_mul] at this
          rw [Int.mul_comm]
          exact this.symm
        rw [this]
        exact Int.mul_ediv_mul_of_pos_left _ _ (by omega)
      have d := Int.mul_ediv_add_emod (lo * ((2 ^ s : Nat) : Int)) 18446744073709551616
      rw [hU, hL, Int.add_mul, Int.add_mul, ← q]
      have : hi * ((2 ^ s : Nat) : Int) * 18446744073709551616 = hi * 18446744073709551616 * ((2 ^ s : Nat) : Int) := by
        rw [Int.mul_assoc, Int.mul_comm ((2 ^ s : Nat) : Int), ← Int.mul_assoc]
      omega
    have U0 : 0 ≤ U := by
      have : 0 ≤ hi * ((2 ^ s : Nat) : Int) := Int.mul_nonneg h0 (by omega)
      omega
    have U1 : U < Y := by
      have : (hi + 1) * ((2 ^ s : Nat) : Int) ≤ y * ((2 ^ s : Nat) : Int) := Int.mul_le_mul_of_nonneg_right (by omega) (by omega)
      rw [Int.add_mul, Int.one_mul] at this
      omega
    have g := gs_start D U0 U1 (u := L / 4294967296) (by omega) (by omega)
    have gq := g.q0
    have gm : 0 ≤ U / (Y / 4294967296) * (Y / 4294967296) := Int.mul_nonneg gq (by omega)
    rw [Int.tdiv_eq_ediv_of_nonneg U0, u64_id (n := U / (Y / 4294967296)) gq (by have := g.q1; omega), u64_id (n := U / (Y / 4294967296) * (Y / 4294967296)) gm (by have := g.r0; omega), u64_id (n := U - U / (Y / 4294967296) * (Y / 4294967296)) g.r0 (by have := g.r1; omega)]
    obtain ⟨q1, p, e, q10, q11, p0, p1, r0, r1⟩ := first_l Y _ _ (s : Int) U (L / 4294967296) (L % 4294967296) D (by omega) U0 U1 (by omega) (by omega) (by omega) (by omega) 2 _ _ g (by have := g.r0; omega)
    refine Ev.pos (by omega) (Ev.pos (by omega) (Ev.neg (by omega) ?_))
    have fin : (IntKind.u64.wrap ((IntKind.u64.wrap (q1 * 4294967296)) + p), shr .u64 ((U * 4294967296 + L / 4294967296 - q1 * Y) * 4294967296 + L % 4294967296 - p * Y) (s : Int)) = ((hi * 18446744073709551616 + lo) / y, (hi * 18446744073709551616 + lo) % y) := by
      rw [u64_id (n := q1 * 4294967296) (by omega) (by omega), u64_id (by omega) (by omega), shr_div _ s (by omega)]
      obtain ⟨Q, hQ⟩ : ∃ Q : Int, Q = q1 * 4294967296 + p := ⟨_, rfl⟩
      have R : (U * 4294967296 + L / 4294967296 - q1 * Y) * 4294967296 + L % 4294967296 - p * Y = (hi * 18446744073709551616 + lo - Q * y) * ((2 ^ s : Nat) : Int) := by
        have m : Q * y * ((2 ^ s : Nat) : Int) = q1 * Y * 4294967296 + p * Y := by
          rw [hQ, Int.mul_assoc, ← hY, Int.add_mul, Int.mul_assoc, Int.mul_comm 4294967296, ← Int.mul_assoc]
        have sm : (hi * 18446744073709551616 + lo - Q * y) * ((2 ^ s : Nat) : Int) = (hi * 18446744073709551616 + lo) * ((2 ^ s : Nat) : Int) - Q * y * ((2 ^ s : Nat) : Int) := Int.sub_mul _ _ _
        rw [sm, m, ← key]
        omega
      rw [R] at r0 r1
      rw [R]
      obtain ⟨T, hT⟩ : ∃ T : Int, T = hi * 18446744073709551616 + lo - Q * y := ⟨_, rfl⟩
      rw [← hT] at r0 r1 ⊢
      have t0 : 0 ≤ T := by
        by_cases hn : 0 ≤ T
        · exact hn
        · have : T * ((2 ^ s : Nat) : Int) ≤ (-1) * ((2 ^ s : Nat) : Int) := Int.mul_le_mul_of_nonneg_right (by omega) (by omega)
          omega
      have t1 : T < y := by
        rw [hY] at r1
        exact Int.lt_of_mul_lt_mul_right r1 (by omega)
      rw [Int.mul_ediv_cancel _ (by omega : ((2 ^ s : Nat) : Int) ≠ 0), ← hQ]
      have hN : hi * 18446744073709551616 + lo = T + Q * y := by omega
      rw [hN, Int.add_mul_ediv_right _ _ (by omega), Int.add_mul_emod_self_right, Int.ediv_eq_zero_of_lt t0 t1, Int.emod_eq_of_lt t0 t1, Int.zero_add]
    rw [fin] at e
    exact e
/-! ### leaves of the quantiser -/
theorem within_f (a b c : Int) : impl_within.f a b c = some (decide (b ≤ a) && decide (a ≤ c)) := by
  unfold impl_within.f
  by_cases h : b ≤ a
  · rw [if_pos (show a ≥ b from h)]
    simp [h]
  · rw [if_neg (show ¬ a ≥ b from h)]
    simp [h]
theorem l5In_f (a b c : Int) : spec_l5In.f a b c = some (decide (b ≤ a) && decide (a ≤ c)) := within_f a b c
def scB (a b : Int) : Bool := decide (1 ≤ a) && decide (a ≤ 1099511627776) && (decide (0 ≤ b) && decide (b ≤ 255))
theorem scale_f (a b : Int) : impl_ScaleOk.f a b = some (scB a b) := by
  unfold impl_ScaleOk.f impl_isByte.f scB
  simp only [within_f, Option.bind_some]
  split
  · next h => simp [h]
  · next h => simp at h; simp; omega
theorem sscale_f (a b : Int) : spec_ScaleOk.f a b = some (scB a b) := by
  rw [← scale_f]
  unfold spec_ScaleOk.f impl_ScaleOk.f impl_isByte.f
  simp only [l5In_f, within_f, Option.bind_some]
/-! ### the nearest of two -/
def nr (q r d : Int) : Int := if r > d - r then q + 1 else if r = d - r then (if q % 2 = 1 then q + 1 else q) else q
theorem near_f (q r d : Int) (h0 : 0 ≤ r) (h1 : r < d) (hd : d ≤ 4611686018427387904) (q0 : 0 ≤ q) (q1 : q ≤ 4611686018427387904) : impl_near.f q r d = some (nr q r d) := by
  unfold impl_near.f nr
  rw [wrap_id (by omega : -9223372036854775808 ≤ d - r) (by omega), wrap_id (by omega : -9223372036854775808 ≤ q + 1) (by omega), and_1]
  by_cases h2 : r > d - r
  · rw [if_pos h2, if_pos h2]
  · rw [if_neg h2, if_neg h2]
    by_cases h3 : r = d - r
    · rw [if_pos h3, if_pos h3]
      by_cases h4 : q % 2 = 1
      · rw [if_pos h4, if_pos h4]
      · rw [if_neg h4, if_neg h4]
    · rw [if_neg h3, if_neg h3]
theorem round_f (q r d : Int) (h0 : 0 ≤ r) (h1 : r < d) (hd : d ≤ 4611686018427387904) (q0 : 0 ≤ q) (q1 : q ≤ 4611686018427387904) : spec_l2Round.f q r d = some (nr q r d) := near_f q r d h0 h1 hd q0 q1
theorem nr_two (q r d : Int) : nr q r d = q ∨ nr q r d = q + 1 := by
  unfold nr
  split
  · exact .inr rfl
  · split
    · split
      · exact .inr rfl
      · exact .inl rfl
    · exact .inl rfl
theorem div_is {N q r d : Int} (hd : 0 < d) (h : N = q * d + r) (h0 : 0 ≤ r) (h1 : r < d) : N / d = q ∧ N % d = r := by
  subst h
  rw [Int.add_comm, Int.add_mul_ediv_right _ _ (by omega), Int.add_mul_emod_self_right, Int.ediv_eq_zero_of_lt h0 h1, Int.emod_eq_of_lt h0 h1, Int.zero_add]
  exact ⟨rfl, rfl⟩
/-- The fraction n / d, doubled k times, rounded. -/
def Rk (n d : Int) (k : Nat) : Int := nr (n * (2 ^ k : Nat) / d) (n * (2 ^ k : Nat) % d) d
theorem up_two (n d : Int) (hd : 0 < d) (k : Nat) :
    n * (2 ^ (k + 1) : Nat) / d = (if d ≤ 2 * (n * (2 ^ k : Nat) % d) then 2 * (n * (2 ^ k : Nat) / d) + 1 else 2 * (n * (2 ^ k : Nat) / d)) ∧
    n * (2 ^ (k + 1) : Nat) % d = (if d ≤ 2 * (n * (2 ^ k : Nat) % d) then 2 * (n * (2 ^ k : Nat) % d) - d else 2 * (n * (2 ^ k : Nat) % d)) := by
  have e : n * ((2 ^ (k + 1) : Nat) : Int) = 2 * (n * ((2 ^ k : Nat) : Int)) := by
    rw [Nat.pow_succ, Int.natCast_mul, ← Int.mul_assoc, Int.mul_comm]
    rfl
  have a := Int.mul_ediv_add_emod (n * ((2 ^ k : Nat) : Int)) d
  have m0 := Int.emod_nonneg (n * ((2 ^ k : Nat) : Int)) (show d ≠ 0 by omega)
  have m1 := Int.emod_lt_of_pos (n * ((2 ^ k : Nat) : Int)) hd
  rw [e]
  generalize n * ((2 ^ k : Nat) : Int) = N at *
  by_cases h : d ≤ 2 * (N % d)
  · rw [if_pos h, if_pos h]
    refine div_is hd ?_ (by omega) (by omega)
    rw [Int.add_mul, Int.one_mul, Int.mul_assoc, Int.mul_comm (N / d)]
    omega
  · rw [if_neg h, if_neg h]
    refine div_is hd ?_ (by omega) (by omega)
    rw [Int.mul_assoc, Int.mul_comm (N / d)]
    omega
theorem Rk_mono (n d : Int) (hn : 0 ≤ n) (hd : 0 < d) (k : Nat) (h : 2147483648 < Rk n d k) : 2147483648 < Rk n d (k + 1) := by
  obtain ⟨u1, _⟩ := up_two n d hd k
  have t1 := nr_two (n * (2 ^ k : Nat) / d) (n * (2 ^ k : Nat) % d) d
  have t2 := nr_two (n * (2 ^ (k + 1) : Nat) / d) (n * (2 ^ (k + 1) : Nat) % d) d
  unfold Rk at *
  split at u1 <;> omega
theorem Rk_all (n d : Int) (hn : 0 ≤ n) (hd : 0 < d) {k : Nat} (h : 2147483648 < Rk n d k) : ∀ j, 2147483648 < Rk n d (k + j)
  | 0 => h
  | j + 1 => Rk_mono n d hn hd (k + j) (Rk_all n d hn hd h j)
/-! ### the reference -/
theorem sfac_l (n d a0 a1 b0 b1 c0 c1 : Int) (hn : 1 ≤ n) (hn' : n ≤ 281474976710656) (hd : 65536 ≤ d) (hd' : d ≤ 1099511627776) : ∀ (e i : Nat) (m s : Int), 63 - i = e → i ≤ 63 → (∀ j, j < i → Rk n d j ≤ 2147483648) → (i = 0 → m = 0 ∧ s = -1) → (0 < i → m = Rk n d (i - 1) ∧ s = ((i - 1 : Nat) : Int)) →
    ∃ K, (∀ j, j < K → Rk n d j ≤ 2147483648) ∧ K ≤ 63 ∧ (K = 63 ∨ 2147483648 < Rk n d K) ∧ Ev (fun k => spec_Factor.l0 k d (n * (2 ^ i : Nat) / d) (n * (2 ^ i : Nat) % d) m s (i : Int)) (if K = 0 then (0, 0, false) else (Rk n d (K - 1), ((K - 1 : Nat) : Int), true)) := by
  have off : ∀ (i : Nat) (m s x : Int), (i = 0 → m = 0 ∧ s = -1) → (0 < i → m = Rk n d (i - 1) ∧ s = ((i - 1 : Nat) : Int)) → ∀ q r, Ev (fun k => spec_Factor.j2 k d q r m s x false) (if i = 0 then (0, 0, false) else (Rk n d (i - 1), ((i - 1 : Nat) : Int), true)) := by
    intro i m s x h0 h1 q r
    refine Ev.succ ?_
    simp only [spec_Factor.j2]
    refine Ev.neg (by simp) ?_
    by_cases hi : i = 0
    · rw [if_pos hi]
      exact Ev.pos (by have := h0 hi; omega) (Ev.some rfl)
    · rw [if_neg hi]
      obtain ⟨e1, e2⟩ := h1 (by omega)
      exact Ev.neg (by omega) (Ev.some (by rw [e1, e2]))
  intro e
  induction e with
  | zero =>
    intro i m s he hi hj h0 h1
    obtain rfl : i = 63 := by omega
    refine ⟨63, hj, by omega, .inl rfl, Ev.succ ?_⟩
    simp only [spec_Factor.l0]
    exact Ev.neg (by omega) (off 63 m s _ h0 h1 _ _)
  | succ e ih =>
    intro i m s he hi hj h0 h1
    have q0 : 0 ≤ n * ((2 ^ i : Nat) : Int) / d := Int.ediv_nonneg (Int.mul_nonneg (by omega) (Int.natCast_nonneg _)) (by omega)
    have m0 := Int.emod_nonneg (n * ((2 ^ i : Nat) : Int)) (show d ≠ 0 by omega)
    have m1 := Int.emod_lt_of_pos (n * ((2 ^ i : Nat) : Int)) (show 0 < d by omega)
    have qb : n * ((2 ^ i : Nat) : Int) / d ≤ 8589934592 := by
      cases i with
      | zero =>
        simp only [Nat.pow_zero, Int.natCast_one, Int.mul_one]
        have : n / d ≤ n / 65536 := by
          have l1 : n / d * d ≤ n := Int.ediv_mul_le n (by omega)
          have l2 : n / d * 65536 ≤ n / d * d := Int.mul_le_mul_of_nonneg_left hd (Int.ediv_nonneg (by omega) (by omega))
          omega
        omega
      | succ i =>
        obtain ⟨u1, _⟩ := up_two n d (by omega) i
        have t1 := nr_two (n * (2 ^ i : Nat) / d) (n * (2 ^ i : Nat) % d) d
        have := hj i (by omega)
        unfold Rk at this
        split at u1 <;> omega
    have rd' := round_f _ _ d m0 m1 (by omega) q0 (by omega)
    by_cases hR : Rk n d i ≤ 2147483648
    · obtain ⟨K, k1, k2, k3, k4⟩ := ih (i + 1) (Rk n d i) (i : Int) (by omega) (by omega) (fun j hji => by
        by_cases e0 : j = i
        · rw [e0]
          exact hR
        · exact hj j (by omega)) (fun h => by omega) (fun _ => ⟨rfl, by simp⟩)
      refine ⟨K, k1, k2, k3, Ev.succ ?_⟩
      simp only [spec_Factor.l0]
      refine Ev.pos (by omega) (Ev.b rd' ?_)
      have : decide (nr (n * ((2 ^ i : Nat) : Int) / d) (n * ((2 ^ i : Nat) : Int) % d) d ≤ 2147483648) = true := decide_eq_true hR
      rw [this]
      refine Ev.succ ?_
      simp only [spec_Factor.j2]
      refine Ev.pos (by trivial) (Ev.b rd' ?_)
      obtain ⟨u1, u2⟩ := up_two n d (by omega) i
      rw [wrap_id (by omega : -9223372036854775808 ≤ 2 * (n * ((2 ^ i : Nat) : Int) % d)) (by omega), wrap_id (by omega : -9223372036854775808 ≤ 2 * (n * ((2 ^ i : Nat) : Int) / d)) (by omega), wrap_id (by omega : -9223372036854775808 ≤ 2 * (n * ((2 ^ i : Nat) : Int) / d) + 1) (by omega), wrap_id (by omega : -9223372036854775808 ≤ 2 * (n * ((2 ^ i : Nat) : Int) % d) - d) (by omega), wrap_id (by omega : -9223372036854775808 ≤ (i : Int) + 1) (by omega)]
      refine Ev.ite (fun hc => ?_) (fun hc => ?_)
      · rw [if_pos (by omega)] at u1 u2
        rw [u1, u2] at k4
        exact k4
      · rw [if_neg (by omega)] at u1 u2
        rw [u1, u2] at k4
        exact k4
    · refine ⟨i, hj, by omega, .inr (by omega), Ev.succ ?_⟩
      simp only [spec_Factor.l0]
      refine Ev.pos (by omega) (Ev.b rd' ?_)
      have : decide (nr (n * ((2 ^ i : Nat) : Int) / d) (n * ((2 ^ i : Nat) : Int) % d) d ≤ 2147483648) = false := decide_eq_false hR
      rw [this]
      exact off i m s _ h0 h1 _ _
/-! ### the program -/
theorem mask_n (a : Nat) (ha : a < 18446744073709551616) : Go.bits .and .u64 (a : Int) 4294967295 = ((a % 4294967296 : Nat) : Int) := by
  rw [and_mask64 _ (by omega) (by omega)]
  omega
theorem div_n (a : Nat) : (a : Int) / 4294967296 = ((a / 4294967296 : Nat) : Int) := by omega
theorem mul_n (a b : Nat) : (a : Int) * (b : Int) = ((a * b : Nat) : Int) := (Int.natCast_mul a b).symm
theorem add_n (a b : Nat) : (a : Int) + (b : Int) = ((a + b : Nat) : Int) := (Int.natCast_add a b).symm
theorem wrap_n (a : Nat) (ha : a < 18446744073709551616) : IntKind.u64.wrap (a : Int) = (a : Int) := u64_id (by omega) (by omega)
theorem wrap_m (a : Nat) : IntKind.u64.wrap (a : Int) = ((a % 18446744073709551616 : Nat) : Int) := by rw [u64w]; omega
theorem mul64_f (x y : Nat) (hx : x < 18446744073709551616) (hy : y < 18446744073709551616) : bits_Mul64.f (x : Int) (y : Int) = some (((x * y / 18446744073709551616 : Nat) : Int), ((x * y % 18446744073709551616 : Nat) : Int)) := by
  obtain ⟨bd, bt, bw, hhi⟩ := Go.Lib.mul64_hi x y hx hy
  have ba := Go.Lib.half_mul_le (a := x / 4294967296) (b := y / 4294967296) (by omega) (by omega)
  have bb := Go.Lib.half_mul_le (a := x / 4294967296) (b := y % 4294967296) (by omega) (by omega)
  have bc := Go.Lib.half_mul_le (a := x % 4294967296) (b := y / 4294967296) (by omega) (by omega)
  have ba' : x / 4294967296 * (y / 4294967296) < 18446744073709551616 := by omega
  have bb' : x / 4294967296 * (y % 4294967296) < 18446744073709551616 := by omega
  have bc' : x % 4294967296 * (y / 4294967296) < 18446744073709551616 := by omega
  have bh1 : x / 4294967296 * (y / 4294967296) + (x / 4294967296 * (y % 4294967296) + x % 4294967296 * (y % 4294967296) / 4294967296) / 4294967296 < 18446744073709551616 := by omega
  have bh : x / 4294967296 * (y / 4294967296) + (x / 4294967296 * (y % 4294967296) + x % 4294967296 * (y % 4294967296) / 4294967296) / 4294967296 + ((x / 4294967296 * (y % 4294967296) + x % 4294967296 * (y % 4294967296) / 4294967296) % 4294967296 + x % 4294967296 * (y / 4294967296)) / 4294967296 < 18446744073709551616 := by omega
  unfold bits_Mul64.f
  simp only [mask_n x hx, mask_n y hy, div_n, mul_n, add_n, wrap_n _ bd, wrap_n _ bb', wrap_n _ bt, mask_n _ bt, wrap_n _ bc', wrap_n _ bw, wrap_n _ ba', wrap_n _ bh1, wrap_n _ bh, wrap_m (x * y)]
  rw [hhi]
theorem scaled_ev (n d : Int) (hn : 1 ≤ n) (hn' : n ≤ 281474976710656) (hd : 65536 ≤ d) (hd' : d ≤ 1099511627776) (k : Nat) (hk : k ≤ 62) :
    ∃ v, Ev (fun f => impl_scaled.f f n d (k : Int)) (v, decide (Rk n d k ≤ 2147483648)) ∧ (Rk n d k ≤ 2147483648 → v = Rk n d k) := by
  have hp : (2 : Nat) ^ k ≤ 2 ^ 62 := Nat.pow_le_pow_right (by decide) hk
  have hp0 : 0 < (2 : Nat) ^ k := Nat.pow_pos (by decide)
  have s1 : shl .u64 1 (k : Int) = ((2 ^ k : Nat) : Int) := by
    rw [shl_id 1 k (by omega) (by omega) (by omega), Int.one_mul]
  have un : IntKind.u64.wrap n = (n.toNat : Int) := by rw [u64_id (by omega) (by omega)]; omega
  have ud : IntKind.u64.wrap d = d := u64_id (by omega) (by omega)
  have mm := mul64_f n.toNat (2 ^ k) (by omega) (by omega)
  have hN : ((n.toNat * 2 ^ k : Nat) : Int) = n * ((2 ^ k : Nat) : Int) := by
    rw [Int.natCast_mul, Int.toNat_of_nonneg (by omega)]
  have e1 : ((n.toNat * 2 ^ k / 18446744073709551616 : Nat) : Int) = n * ((2 ^ k : Nat) : Int) / 18446744073709551616 := by rw [← hN]; rfl
  have e2 : ((n.toNat * 2 ^ k % 18446744073709551616 : Nat) : Int) = n * ((2 ^ k : Nat) : Int) % 18446744073709551616 := by rw [← hN]; rfl
  rw [e1, e2] at mm
  have N0 : 0 ≤ n * ((2 ^ k : Nat) : Int) := Int.mul_nonneg (by omega) (Int.natCast_nonneg _)
  unfold impl_scaled.f Rk
  rw [s1, un, ud]
  generalize n * ((2 ^ k : Nat) : Int) = N at *
  have a := Int.mul_ediv_add_emod N 18446744073709551616
  have dv := Int.mul_ediv_add_emod N d
  have m0 := Int.emod_nonneg N (show d ≠ 0 by omega)
  have m1 := Int.emod_lt_of_pos N (show 0 < d by omega)
  have q0 : 0 ≤ N / d := Int.ediv_nonneg N0 (by omega)
  have t := nr_two (N / d) (N % d) d
  by_cases c : N / 18446744073709551616 ≥ d
  · have big : 2147483648 < N / d := by
      have : d * 18446744073709551616 ≤ N := by omega
      have h2 : d * 18446744073709551616 < d * (N / d + 1) := by
        rw [Int.mul_add, Int.mul_one]
        omega
      have := Int.lt_of_mul_lt_mul_left h2 (by omega)
      omega
    refine ⟨0, Ev.pos (by omega) (Ev.b mm (Ev.pos c (Ev.some ?_))), fun h => by omega⟩
    rw [decide_eq_false (by omega)]
  · have dd := div64_ev (N / 18446744073709551616) (N % 18446744073709551616) d (by omega) (by omega) (by omega) (by omega) (by omega)
    rw [show N / 18446744073709551616 * 18446744073709551616 + N % 18446744073709551616 = N by omega] at dd
    by_cases c2 : N / d > 2147483648
    · refine ⟨0, Ev.pos (by omega) (Ev.b mm (Ev.neg c (Ev.bind dd (Ev.pos c2 (Ev.some ?_))))), fun h => by omega⟩
      rw [decide_eq_false (by omega)]
    · refine ⟨nr (N / d) (N % d) d, Ev.pos (by omega) (Ev.b mm (Ev.neg c (Ev.bind dd (Ev.neg c2 ?_)))), fun _ => rfl⟩
      rw [wrap_id (by omega : -9223372036854775808 ≤ N / d) (by omega), wrap_id (by omega : -9223372036854775808 ≤ N % d) (by omega)]
      exact Ev.b (near_f _ _ d m0 m1 (by omega) q0 (by omega)) (Ev.some rfl)
theorem ifac_l (a0 a1 b0 b1 c0 c1 : Int) (ha : 1 ≤ a0) (ha' : a0 ≤ 16777216) (hb : 1 ≤ b0) (hb' : b0 ≤ 16777216) (hc : 1 ≤ c0) (hc' : c0 ≤ 16777216) (K : Nat) (k1 : ∀ j, j < K → Rk (a0 * b0) (65536 * c0) j ≤ 2147483648) (k3 : K = 63 ∨ 2147483648 < Rk (a0 * b0) (65536 * c0) K) :
    ∀ (i : Nat), i ≤ 63 → K ≤ i → Ev (fun k => impl_Factor.l1 k ((i : Int) - 1) a0 a1 b0 b1 c0 c1) (if K = 0 then (0, 0, false) else (Rk (a0 * b0) (65536 * c0) (K - 1), ((K - 1 : Nat) : Int), true)) := by
  have p1 : 1 * 1 ≤ a0 * b0 := Int.mul_le_mul ha hb (by omega) (by omega)
  have p2 : a0 * b0 ≤ 16777216 * 16777216 := Int.mul_le_mul ha' hb' (by omega) (by omega)
  intro i
  induction i with
  | zero =>
    intro _ hK
    obtain rfl : K = 0 := by omega
    refine Ev.succ ?_
    simp only [impl_Factor.l1]
    exact Ev.neg (by omega) (Ev.some rfl)
  | succ i ih =>
    intro hi hK
    obtain ⟨v, ev, hv⟩ := scaled_ev (a0 * b0) (65536 * c0) (by omega) (by omega) (by omega) (by omega) i (by omega)
    have e : ((i + 1 : Nat) : Int) - 1 = (i : Int) := by omega
    refine Ev.succ ?_
    simp only [impl_Factor.l1]
    rw [e, wrap_id (by omega : -9223372036854775808 ≤ a0 * b0) (by omega), wrap_id (by omega : -9223372036854775808 ≤ 65536 * c0) (by omega)]
    refine Ev.pos (by omega) (Ev.bind ev ?_)
    by_cases hKi : K ≤ i
    · have : 2147483648 < Rk (a0 * b0) (65536 * c0) i := by
        rcases k3 with h | h
        · omega
        · have := Rk_all (a0 * b0) (65536 * c0) (by omega) (by omega) h (i - K)
          rwa [show K + (i - K) = i by omega] at this
      rw [decide_eq_false (by omega), wrap_id (by omega : -9223372036854775808 ≤ (i : Int) - 1) (by omega)]
      exact Ev.neg (by simp) (ih (by omega) hKi)
    · have hk := k1 i (by omega)
      rw [decide_eq_true hk, hv hk, if_neg (by omega), show K - 1 = i by omega]
      exact Ev.pos (by trivial) (Ev.some rfl)
theorem at26 {l : List S26} {i : Nat} (h : i < l.length) : rd_T26 l (i : Int) = l[i] := getD_at h
theorem factor_ev (a0 a1 b0 b1 c0 c1 : Int) : ∃ v, Ev (fun k => spec_Factor.f k a0 a1 b0 b1 c0 c1) v ∧ Ev (fun k => impl_Factor.f k a0 a1 b0 b1 c0 c1) v ∧ (v.2.2 = true → scB a0 a1 = true ∧ scB b0 b1 = true ∧ scB c0 c1 = true ∧ 0 ≤ v.1 ∧ v.1 ≤ 2147483648 ∧ 0 ≤ v.2.1 ∧ v.2.1 ≤ 62) := by
  have js : Ev (fun k => spec_Factor.j0 k true a0 a1 b0 b1 c0 c1) (0, 0, false) := Ev.succ (by simp only [spec_Factor.j0]; exact Ev.pos (by trivial) (Ev.some rfl))
  -- the program looks at the three scales one behind the other
  have sc : ∀ (s : S26) (i : Nat) (hi : i < 3) (hs : ([⟨a0, a1⟩, ⟨b0, b1⟩, ⟨c0, c1⟩] : List S26)[i] = s) (R : Int × Int × Bool),
      (scB s.f0 s.f1 = true → s.f0 ≤ 16777216 → Ev (fun k => impl_Factor.l0 k [⟨a0, a1⟩, ⟨b0, b1⟩, ⟨c0, c1⟩] 3 ((i + 1 : Nat) : Int) a0 a1 b0 b1 c0 c1) R) → (¬ (scB s.f0 s.f1 = true ∧ s.f0 ≤ 16777216) → R = (0, 0, false)) → Ev (fun k => impl_Factor.l0 k [⟨a0, a1⟩, ⟨b0, b1⟩, ⟨c0, c1⟩] 3 (i : Int) a0 a1 b0 b1 c0 c1) R := by
    intro s i hi hs R h1 h2
    refine Ev.succ ?_
    simp only [impl_Factor.l0]
    refine Ev.pos (by omega) (Ev.pos (by omega) (Ev.pos (by simp; omega) ?_))
    rw [at26 (by simpa using hi), hs, scale_f]
    simp only [Option.bind_some]
    refine Ev.ite (fun g => Ev.ite (fun g2 => Ev.some ?_) (fun g2 => ?_)) (fun g => Ev.some ?_)
    · exact (h2 (fun hh => by omega)).symm
    · rw [wrap_id (by omega) (by omega)]
      exact h1 g (by omega)
    · exact (h2 (fun hh => g hh.1)).symm
  have start : ∀ R, Ev (fun k => impl_Factor.l0 k [⟨a0, a1⟩, ⟨b0, b1⟩, ⟨c0, c1⟩] 3 0 a0 a1 b0 b1 c0 c1) R → Ev (fun k => impl_Factor.f k a0 a1 b0 b1 c0 c1) R := fun R h => Ev.b rfl h
  by_cases hall : (scB a0 a1 = true ∧ a0 ≤ 16777216) ∧ (scB b0 b1 = true ∧ b0 ≤ 16777216) ∧ (scB c0 c1 = true ∧ c0 ≤ 16777216)
  · obtain ⟨⟨x1, x2⟩, ⟨y1, y2⟩, z1, z2⟩ := hall
    have ax : 1 ≤ a0 := by unfold scB at x1; simp only [Bool.and_eq_true, decide_eq_true_eq] at x1; omega
    have bx : 1 ≤ b0 := by unfold scB at y1; simp only [Bool.and_eq_true, decide_eq_true_eq] at y1; omega
    have cx : 1 ≤ c0 := by unfold scB at z1; simp only [Bool.and_eq_true, decide_eq_true_eq] at z1; omega
    have p1 : 1 * 1 ≤ a0 * b0 := Int.mul_le_mul ax bx (by omega) (by omega)
    have p2 : a0 * b0 ≤ 16777216 * 16777216 := Int.mul_le_mul x2 y2 (by omega) (by omega)
    obtain ⟨K, k1, k2, k3, k4⟩ := sfac_l (a0 * b0) (65536 * c0) a0 a1 b0 b1 c0 c1 (by omega) (by omega) (by omega) (by omega) 63 0 0 (-1) (by omega) (by omega) (fun j hj => by omega) (fun _ => ⟨rfl, rfl⟩) (fun h => by omega)
    have li := ifac_l a0 a1 b0 b1 c0 c1 ax x2 bx y2 cx z2 K k1 k3 63 (by omega) k2
    refine ⟨(if K = 0 then (0, 0, false) else (Rk (a0 * b0) (65536 * c0) (K - 1), ((K - 1 : Nat) : Int), true)), ?_, start _ (sc ⟨a0, a1⟩ 0 (by omega) rfl _ (fun _ _ => sc ⟨b0, b1⟩ 1 (by omega) rfl _ (fun _ _ => sc ⟨c0, c1⟩ 2 (by omega) rfl _ (fun _ _ => Ev.succ ?_) (fun h => absurd ⟨z1, z2⟩ h)) (fun h => absurd ⟨y1, y2⟩ h)) (fun h => absurd ⟨x1, x2⟩ h)), ?_⟩
    · unfold spec_Factor.f
      simp only [sscale_f, Option.bind_some, x1, y1, z1]
      refine Ev.pos (by trivial) (Ev.pos (by trivial) (Ev.pos (by trivial) (Ev.neg (by omega) (Ev.neg (by omega) (Ev.succ ?_)))))
      simp only [spec_Factor.j0]
      rw [wrap_id (by omega : -9223372036854775808 ≤ 65536 * c0) (by omega), wrap_id (by omega : -9223372036854775808 ≤ a0 * b0) (by omega), Int.tdiv_eq_ediv_of_nonneg (by omega), Int.tmod_eq_emod_of_nonneg (by omega)]
      have q0 : 0 ≤ a0 * b0 / (65536 * c0) := Int.ediv_nonneg (by omega) (by omega)
      have q1 : a0 * b0 / (65536 * c0) ≤ a0 * b0 := Int.ediv_le_self _ (by omega)
      rw [wrap_id (by omega : -9223372036854775808 ≤ a0 * b0 / (65536 * c0)) (by omega)]
      refine Ev.neg (by simp; omega) (Ev.neg (by omega) ?_)
      simpa using k4
    · simp only [impl_Factor.l0]
      refine Ev.neg (by omega) ?_
      exact li
    · intro hv
      by_cases hK : K = 0
      · rw [if_pos hK] at hv
        cases hv
      · rw [if_neg hK]
        have := k1 (K - 1) (by omega)
        have t := nr_two (a0 * b0 * ((2 ^ (K - 1) : Nat) : Int) / (65536 * c0)) (a0 * b0 * ((2 ^ (K - 1) : Nat) : Int) % (65536 * c0)) (65536 * c0)
        have q0 : 0 ≤ a0 * b0 * ((2 ^ (K - 1) : Nat) : Int) / (65536 * c0) := Int.ediv_nonneg (Int.mul_nonneg (by omega) (Int.natCast_nonneg _)) (by omega)
        refine ⟨x1, y1, z1, ?_, this, ?_, ?_⟩
        · unfold Rk
          show 0 ≤ nr _ _ _
          omega
        · show (0 : Int) ≤ ((K - 1 : Nat) : Int)
          omega
        · show ((K - 1 : Nat) : Int) ≤ 62
          omega
  · refine ⟨(0, 0, false), ?_, start _ ?_, fun h => by cases h⟩
    · unfold spec_Factor.f
      simp only [sscale_f, Option.bind_some]
      refine Ev.ite (fun x1 => Ev.ite (fun y1 => Ev.ite (fun z1 => Ev.ite (fun _ => js) (fun x2 => Ev.ite (fun _ => js) (fun y2 => ?_))) (fun _ => js)) (fun _ => js)) (fun _ => js)
      rw [decide_eq_true (show c0 > 16777216 from by
        by_cases h : c0 > 16777216
        · exact h
        · exact absurd ⟨⟨x1, by omega⟩, ⟨y1, by omega⟩, z1, by omega⟩ hall)]
      exact js
    · refine sc ⟨a0, a1⟩ 0 (by omega) rfl _ (fun x1 x2 => sc ⟨b0, b1⟩ 1 (by omega) rfl _ (fun y1 y2 => sc ⟨c0, c1⟩ 2 (by omega) rfl _ (fun z1 z2 => ?_) (fun _ => rfl)) (fun _ => rfl)) (fun _ => rfl)
      exact absurd ⟨⟨x1, x2⟩, ⟨y1, y2⟩, z1, z2⟩ hall
theorem FnExactFactor (a0 a1 b0 b1 c0 c1 : Int) : ∃ k, laws_FnExactFactor.f k a0 a1 b0 b1 c0 c1 = some true := by
  apply Ev.rounds
  unfold laws_FnExactFactor.f laws_toScale.f
  simp only [Option.bind_some]
  obtain ⟨v, e1, e2, _⟩ := factor_ev a0 a1 b0 b1 c0 c1
  exact Ev.bind e1 (Ev.bind e2 (Ev.pos rfl (Ev.pos rfl (Ev.neg (by simp) (Ev.some rfl)))))
end Go.Proofs.Ytkgknnhecbbfgaa.PureFnExactFactor
