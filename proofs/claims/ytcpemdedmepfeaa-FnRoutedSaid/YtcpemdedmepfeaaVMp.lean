/- Plain facts on lengths, indexes in order, and places (numbers and lists alone). -/
import Derived.Test.YtcpemdedmepfeaaBase
namespace Go.Proofs.Ytcpemdedmepfeaa.VMp
open Go.RowKit Go.Proofs.YtcpemdedmepfeaaW.PrintWords Go.Proofs.YtcpemdedmepfeaaW.PrintMore Go.Proofs.Ytcpemdedmepfeaa.Base
/-- The product of lengths. -/
def prod : List Int → Int
  | [] => 1
  | d :: ds => d * prod ds
/-- Lengths that can be, from a running product on. -/
def runOk : Int → List Int → Bool
  | _, [] => true
  | n, d :: ds => if d < 1 then false else if 4096 < d then false else if 4096 < n * d then false else runOk (n * d) ds
theorem runOk_cons {n d : Int} {ds : List Int} (h : runOk n (d :: ds) = true) : 1 ≤ d ∧ d ≤ 4096 ∧ n * d ≤ 4096 ∧ runOk (n * d) ds = true := by
  unfold runOk at h
  split at h
  · cases h
  · split at h
    · cases h
    · split at h
      · cases h
      · exact ⟨by omega, by omega, by omega, h⟩
theorem prod_pos : ∀ {l : List Int} {n : Int}, runOk n l = true → 1 ≤ prod l
  | [], _, _ => by simp [prod]
  | d :: ds, n, h => by
    obtain ⟨h1, _, _, h4⟩ := runOk_cons h
    have := prod_pos h4
    have : d * 1 ≤ d * prod ds := Int.mul_le_mul_of_nonneg_left this (by omega)
    simp only [prod]
    omega
theorem run_prod : ∀ {l : List Int} {n : Int}, 1 ≤ n → n ≤ 4096 → runOk n l = true → n * prod l ≤ 4096
  | [], n, _, hn, _ => by simp [prod]; omega
  | d :: ds, n, h0, hn, h => by
    obtain ⟨h1, _, h3, h4⟩ := runOk_cons h
    have p : 1 * 1 ≤ n * d := Int.mul_le_mul h0 h1 (by omega) (by omega)
    have := run_prod (by omega) h3 h4
    simp only [prod]
    rw [← Int.mul_assoc]
    exact this
theorem run_all : ∀ {l : List Int} {n : Int}, runOk n l = true → ∀ d ∈ l, 1 ≤ d ∧ d ≤ 4096
  | [], _, _, d, hd => by simp at hd
  | e :: ds, n, h, d, hd => by
    obtain ⟨h1, h2, _, h4⟩ := runOk_cons h
    rcases List.mem_cons.1 hd with rfl | hd
    · exact ⟨h1, h2⟩
    · exact run_all h4 d hd
theorem run_mono : ∀ {l : List Int} {m n : Int}, 1 ≤ m → m ≤ n → runOk n l = true → runOk m l = true
  | [], _, _, _, _, _ => rfl
  | d :: ds, m, n, h0, h1, h => by
    obtain ⟨h2, h3, h4, h5⟩ := runOk_cons h
    have p : m * d ≤ n * d := Int.mul_le_mul_of_nonneg_right h1 (by omega)
    have p0 : 1 * 1 ≤ m * d := Int.mul_le_mul h0 h2 (by omega) (by omega)
    unfold runOk
    rw [if_neg (by omega), if_neg (by omega), if_neg (by omega)]
    exact run_mono (by omega) p h5
theorem run_drop : ∀ {l : List Int} (i : Nat), runOk 1 l = true → runOk 1 (l.drop i) = true
  | [], i, _ => by simp [runOk]
  | d :: ds, 0, h => h
  | d :: ds, i + 1, h => by
    obtain ⟨h2, h3, h4, h5⟩ := runOk_cons h
    rw [List.drop_succ_cons]
    exact run_drop i (run_mono (by omega) (by omega) h5)
theorem prod_le {l : List Int} (h : runOk 1 l = true) (i : Nat) : 1 ≤ prod (l.drop i) ∧ prod (l.drop i) ≤ 4096 := by
  have r := run_drop i h
  have := run_prod (n := 1) (by omega) (by omega) r
  exact ⟨prod_pos r, by omega⟩
end Go.Proofs.Ytcpemdedmepfeaa.VMp
