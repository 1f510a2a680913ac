/- Small lemmas on rounds, machine integers and list reads that the pure statements of this seat share. -/
import Derived.Test.YtpoblnigmfbnfacWMore
import Derived.Laws.BitsLemmas
namespace Go.Proofs.Ytpoblnigmfbnfac.Base
open Go.RowKit Go.Proofs.YtpoblnigmfbnfacW.PrintWords Go.Proofs.YtpoblnigmfbnfacW.PrintLast Go.Proofs.YtpoblnigmfbnfacW.PrintMore
theorem Ev.k {α : Type} {x : Option α} {r : α} (h : x = some r) : Ev (fun _ => x) r := ⟨0, fun _ _ => h⟩
theorem Ev.succ {α : Type} {g : Nat → Option α} {r : α} (h : Ev (fun k => g (k + 1)) r) : Ev g r := by
  obtain ⟨K, h⟩ := h
  refine ⟨K + 1, fun n hn => ?_⟩
  obtain ⟨m, rfl⟩ : ∃ m, n = m + 1 := ⟨n - 1, by omega⟩
  exact h m (by omega)
theorem Ev.pos {α : Type} {c : Prop} [Decidable c] {f g : Nat → Option α} {r : α} (h : c) (k : Ev f r) : Ev (fun n => if c then f n else g n) r := by
  simpa only [if_pos h] using k
theorem Ev.neg {α : Type} {c : Prop} [Decidable c] {f g : Nat → Option α} {r : α} (h : ¬ c) (k : Ev g r) : Ev (fun n => if c then f n else g n) r := by
  simpa only [if_neg h] using k
theorem Ev.ite {α : Type} {c : Prop} [Decidable c] {f g : Nat → Option α} {r : α} (h1 : c → Ev f r) (h2 : ¬ c → Ev g r) : Ev (fun n => if c then f n else g n) r := by
  by_cases h : c
  · exact Ev.pos h (h1 h)
  · exact Ev.neg h (h2 h)
theorem Ev.some {α : Type} {r v : α} (h : v = r) : Ev (fun _ => Option.some v) r := ⟨0, fun _ _ => by rw [h]⟩
theorem Ev.b {α β : Type} {x : Option α} {f : Nat → α → Option β} {a : α} {r : β} (h : x = Option.some a) (k : Ev (fun n => f n a) r) : Ev (fun n => x.bind (f n)) r := Ev.bind (Ev.k h) k
theorem Ev.same {α : Type} {g f : Nat → Option α} {r : α} (h : ∀ k, g k = f k) (k : Ev f r) : Ev g r := Ev.congr h k
theorem wrap_id {n : Int} (h1 : -9223372036854775808 ≤ n) (h2 : n ≤ 9223372036854775807) : wrap64 n = n := by
  unfold wrap64
  omega
theorem wrap_lo (n : Int) : -9223372036854775808 ≤ wrap64 n := by
  unfold wrap64
  omega
theorem wrap_hi (n : Int) : wrap64 n ≤ 9223372036854775807 := by
  unfold wrap64
  omega
theorem rd_at {l : List Int} {i : Nat} (h : i < l.length) : rd l (i : Int) = l[i] := by
  unfold rd
  rw [List.getD_eq_getElem?_getD, Int.toNat_natCast, List.getElem?_eq_getElem h, Option.getD_some]
theorem drop_at {α : Type} {l : List α} {i : Nat} (h : i < l.length) : l.drop i = l[i] :: l.drop (i + 1) := List.drop_eq_getElem_cons h
theorem up (i : Nat) {n : Nat} (h : i < n) (hn : n ≤ 9223372036854775807) : wrap64 ((i : Int) + 1) = ((i + 1 : Nat) : Int) := by
  rw [wrap_id] <;> omega
/-- A copying loop has come to i: the first i are there, noughts behind. -/
theorem set_copy {l : List Int} {i : Nat} (h : i < l.length) : (l.take i ++ List.replicate (l.length - i) 0).set i l[i] = l.take (i + 1) ++ List.replicate (l.length - (i + 1)) 0 := by
  have h1 : l.length - i = (l.length - (i + 1)) + 1 := by omega
  rw [h1, List.replicate_succ, List.set_append_right _ _ (by simp; omega), List.length_take, Nat.min_eq_left (by omega), Nat.sub_self, List.set_cons_zero, List.take_succ_eq_append_getElem h, List.append_assoc]
  rfl
theorem and_mask (n : Int) (j : Nat) (hj : j ≤ 62) : Go.bits .and .i64 n (2 ^ j - 1 : Nat) = n % (2 ^ j : Nat) := by
  have hp : (2 : Nat) ^ j ≤ 2 ^ 62 := Nat.pow_le_pow_right (by decide) hj
  have hp0 : 0 < (2 : Nat) ^ j := Nat.pow_pos (by decide)
  have h1 : (BitVec.ofInt 64 ((2 ^ j - 1 : Nat) : Int)).toNat = 2 ^ j - 1 := by
    rw [BitVec.toNat_ofInt]
    omega
  have key : (BitVec.ofInt 64 n &&& BitVec.ofInt 64 ((2 ^ j - 1 : Nat) : Int)).toNat = (n % ((2 ^ 64 : Nat) : Int)).toNat % 2 ^ j := by
    rw [BitVec.toNat_and, BitVec.toNat_ofInt, h1, Nat.and_two_pow_sub_one_eq_mod]
  show IntKind.i64.wrap ((BitVec.ofInt 64 n &&& BitVec.ofInt 64 ((2 ^ j - 1 : Nat) : Int)).toNat : Nat) = _
  have hd : ((2 ^ j : Nat) : Int) ∣ ((2 ^ 64 : Nat) : Int) := Int.natCast_dvd_natCast.2 (Nat.pow_dvd_pow 2 (by omega))
  have e : (((n % ((2 ^ 64 : Nat) : Int)).toNat % 2 ^ j : Nat) : Int) = n % ((2 ^ j : Nat) : Int) := by
    rw [Int.natCast_emod, Int.toNat_of_nonneg (Int.emod_nonneg _ (by decide)), Int.emod_emod_of_dvd _ hd]
  rw [key, e, IntKind.wrap_i64]
  have := Int.emod_nonneg n (show ((2 ^ j : Nat) : Int) ≠ 0 by omega)
  have := Int.emod_lt_of_pos n (show (0 : Int) < ((2 ^ j : Nat) : Int) by omega)
  omega
theorem and_255 (n : Int) : Go.bits .and .i64 n 255 = n % 256 := and_mask n 8 (by decide)
theorem and_1 (n : Int) : Go.bits .and .i64 n 1 = n % 2 := and_mask n 1 (by decide)
theorem set_fill {β : Type} {L : List β} {z : β} {i : Nat} (h : i < L.length) : (L.take i ++ List.replicate (L.length - i) z).set i L[i] = L.take (i + 1) ++ List.replicate (L.length - (i + 1)) z := by
  have h1 : L.length - i = (L.length - (i + 1)) + 1 := by omega
  rw [h1, List.replicate_succ, List.set_append_right _ _ (by simp; omega), List.length_take, Nat.min_eq_left (by omega), Nat.sub_self, List.set_cons_zero, List.take_succ_eq_append_getElem h, List.append_assoc]
  rfl
theorem getD_at {β : Type} {l : List β} {z : β} {i : Nat} (h : i < l.length) : l.getD (i : Int).toNat z = l[i] := by
  rw [List.getD_eq_getElem?_getD, Int.toNat_natCast, List.getElem?_eq_getElem h, Option.getD_some]
/-- It comes to an end, with something. -/
def Tot {α : Type} (g : Nat → Option α) : Prop := ∃ r, Ev g r
theorem Tot.some {α : Type} (v : α) : Tot (fun _ => Option.some v) := ⟨v, Ev.some rfl⟩
theorem Tot.succ {α : Type} {g : Nat → Option α} (h : Tot (fun k => g (k + 1))) : Tot g := by
  obtain ⟨r, h⟩ := h
  exact ⟨r, Ev.succ h⟩
theorem Tot.ite {α : Type} {c : Prop} [Decidable c] {f g : Nat → Option α} (h1 : c → Tot f) (h2 : ¬ c → Tot g) : Tot (fun n => if c then f n else g n) := by
  by_cases h : c
  · obtain ⟨r, e⟩ := h1 h
    exact ⟨r, Ev.pos h e⟩
  · obtain ⟨r, e⟩ := h2 h
    exact ⟨r, Ev.neg h e⟩
theorem Tot.b {α β : Type} {x : Option α} {f : Nat → α → Option β} {a : α} (h : x = Option.some a) (k : Tot (fun n => f n a)) : Tot (fun n => x.bind (f n)) := by
  obtain ⟨r, e⟩ := k
  exact ⟨r, Ev.b h e⟩
theorem Tot.bind {α β : Type} {g : Nat → Option α} {f : Nat → α → Option β} (h : Tot g) (k : ∀ a, Tot (fun n => f n a)) : Tot (fun n => (g n).bind (f n)) := by
  obtain ⟨a, h⟩ := h
  obtain ⟨r, e⟩ := k a
  exact ⟨r, Ev.bind h e⟩
theorem Ev.uniq {α : Type} {g : Nat → Option α} {a b : α} (h : Ev g a) (k : Ev g b) : a = b := by
  obtain ⟨K, h⟩ := h
  obtain ⟨K', k⟩ := k
  have h1 := h (max K K') (by omega)
  have h2 := k (max K K') (by omega)
  rw [h1] at h2
  exact Option.some.inj h2
end Go.Proofs.Ytpoblnigmfbnfac.Base
