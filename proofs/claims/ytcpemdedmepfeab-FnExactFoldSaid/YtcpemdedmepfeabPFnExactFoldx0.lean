-- Printed out of the translation, hand-written contracts beside it; checked by the kernel alone.
import Derived.Test.YtcpemdedmepfeabProg
import Derived.RangeFuncNested
import Derived.RangeFuncBound
import Derived.RangeFuncCalls
import Derived.RangeFuncLeaves
import Derived.Shelf.Abstract
import Derived.WalkKit
import Derived.OwnWalkIn
import Derived.TacticsInMore
import Derived.LoopNIn
import Derived.LoopIn
import Derived.Sort.LoopGhostIn
import Derived.Sort.QuietIn
import Derived.Sort.CutIn
import Derived.Maps.AppendAt
import Derived.Shelf.RegionOpen
import Derived.Deep.RegionHeld3
import Derived.Lib.SliceRun
import Derived.Shelf.Small.Bits
import Derived.WalkLawsBesides
import Derived.Laws.FloatArith
import Derived.Laws.Externs
import Derived.RegionTactic
import Derived.ChangeAlike
import Derived.BigRegion
import Derived.Below
import Derived.Deep.Draws
import Derived.Deep.AppendLies
import Derived.Maps.AppendAt
import Derived.OwnWalk
import Derived.Laws.BytesArg
import Derived.Laws.MakeOwn
import Derived.Laws.OwnMore
import Derived.Deep.OwnRows
import Derived.Tactics
import Derived.Lib.ConvBytes
import Derived.Laws.Slices
import Derived.WalkKit
import Derived.KernelRfl
import Derived.RowKit3
import Derived.Deep.LoopGhost
import Derived.Deep.QuietTactic
import Derived.BigQuiet
import Derived.WideLaws
import Derived.Deep.DeepCutAuto
import Derived.Deep.CutBlock
import Derived.Deep.RegionHeld3
import Derived.Laws.Rows
import Derived.Lib.AppendStr
import Derived.ArgAppend
import Derived.Laws.IdiomCopy
import Derived.OrdersHeld
import Derived.Laws.BitsLemmas
import Derived.RowKit
import Derived.Test.YtcpemdedmepfeabWWords
import Derived.Test.YtcpemdedmepfeabWLast
import Derived.Test.YtcpemdedmepfeabWTab
import Derived.Test.YtcpemdedmepfeabWFour
import Derived.Test.YtcpemdedmepfeabWQPut
import Derived.Test.YtcpemdedmepfeabWApart
import Derived.Test.YtcpemdedmepfeabWArr
import Derived.Test.YtcpemdedmepfeabWZeros
import Derived.Test.YtcpemdedmepfeabWFoot
import Derived.Test.YtcpemdedmepfeabWKept
import Derived.Test.YtcpemdedmepfeabWShare
import Derived.Test.YtcpemdedmepfeabWN
import Derived.Test.YtcpemdedmepfeabWFootNe
import Derived.Test.YtcpemdedmepfeabWAt
import Derived.Test.YtcpemdedmepfeabWEqStruct
import Derived.Test.YtcpemdedmepfeabWRepsOne
import Derived.Test.YtcpemdedmepfeabWInv
import Derived.Test.YtcpemdedmepfeabWInvWords
import Derived.Test.YtcpemdedmepfeabWGuard
import Derived.Test.YtcpemdedmepfeabWNEv
import Derived.Test.YtcpemdedmepfeabWMore
namespace Go.Proofs.Ytcpemdedmepfeab.PFnExactFold
open Go.RowKit Go.Proofs.YtcpemdedmepfeabW.PrintWords Go.Proofs.YtcpemdedmepfeabW.PrintLast Go.Proofs.YtcpemdedmepfeabW.PrintMore
attribute [local go_sem] max2_int min2_int max_two min_two max_three min_three max_four min_four   -- for this text's walks alone
set_option linter.unusedVariables false
set_option linter.unusedSimpArgs false



def errW : Option Int → Value
 | none => .nilIface
 | some c => .iface 0 (.int .i64 c)
theorem errW_none : errW none = .nilIface := rfl
theorem errW_some (c : Int) : errW (some c) = .iface 0 (.int .i64 c) := rfl

theorem info3 : (Try.prog.info? 3).map (fun i => (i.zero, i.size, i.bytes)) = some (some (.int .i64 0), 1, 8) := by kernel_rfl
theorem info113 : (Try.prog.info? 113).map (fun i => (i.zero, i.size, i.bytes)) = some (some (.agg #[(.int .i64 0), (.int .i64 0)]), 2, 16) := by kernel_rfl
-- the values' own types
/-! #### struct type 113 -/
structure S113 where
 f0 : Int
 f1 : Int
def z113 : S113 := ⟨(0 : Int), (0 : Int)⟩
def k113 : Kd S113 := Kd.iso (Kd.pair (Kd.int .i64) (Kd.int .i64)) (fun x : S113 => (x.f0, x.f1))
theorem k113_open {w : World} {x : S113} {cs : List Value} (h : k113.K w x cs) : cs = [.int .i64 x.f0, .int .i64 x.f1] := by
 obtain ⟨_, _, rfl, rfl, rfl⟩ := h
 exact rfl
theorem k113_openM {w : World} {base : Nat} {ok : Nat → Prop} {x : S113} {cs : List Value} (h : k113.M w base ok x cs) : cs = [.int .i64 x.f0, .int .i64 x.f1] := by
 obtain ⟨_, _, rfl, rfl, rfl⟩ := h
 exact rfl
theorem k113_mk (w : World) (x : S113)  : k113.K w x [.int .i64 x.f0, .int .i64 x.f1] := ⟨[.int .i64 x.f0], [.int .i64 x.f1], rfl, rfl, rfl⟩
theorem k113_mkM (w : World) (base : Nat) (ok : Nat → Prop) (x : S113)  : k113.M w base ok x [.int .i64 x.f0, .int .i64 x.f1] := ⟨[.int .i64 x.f0], [.int .i64 x.f1], rfl, rfl, rfl⟩
def rd_T113 (xs : List S113) (i : Int) : S113 := xs.getD i.toNat z113
theorem at_T113 {w : World} {A : Option Addr} {n : Nat} {xs : List S113} (h : Kd.C k113 w A n xs) (i : Int) (h0 : 0 ≤ i) (h1 : i < n) : ∃ ad , A = some ad ∧ w.cell? (ad.add (i.toNat * 2)) = some (.int .i64 (rd_T113 xs i).f0) ∧ w.cell? ⟨(ad.add (i.toNat * 2)).block, (ad.add (i.toNat * 2)).off + 1, none⟩ = some (.int .i64 (rd_T113 xs i).f1) := by
 obtain ⟨ad, c, e, _, hK, hc0⟩ := Kd.C_get h z113 i h0 h1
 have hc : ∀ j u, c[j]? = some u → w.cell? (ad.add (i.toNat * 2 + j)) = some u := hc0
 obtain rfl := k113_open hK
 exact ⟨ad, e, hc 0 _ rfl, by rw [← add_field _ _ 1 (by omega)]; exact hc 1 _ rfl⟩


instance up_refl (w : World) : Nonempty (Below w.heap.size w w) := ⟨Below.refl _ _⟩
instance up_alloc (w w' : World) [h : Nonempty (Below w.heap.size w w')] (o : Obj) : Nonempty (Below w.heap.size w (w'.alloc o)) := h.elim fun b => ⟨below_alloc b o⟩
instance up_drewN (w w' : World) [h : Nonempty (Below w.heap.size w w')] (n : Nat) : Nonempty (Below w.heap.size w (w'.drewN n)) := h.elim fun b => ⟨pw_below_drewN b n⟩
instance up_drew (w w' : World) [h : Nonempty (Below w.heap.size w w')] : Nonempty (Below w.heap.size w w'.drew) := h.elim fun b => ⟨below_drew1 b⟩
theorem upB (w w' : World) [h : Nonempty (Below w.heap.size w w')] : Below w.heap.size w w' := h.elim id
theorem Ru {α : Type} {d : Kd α} {e base : Nat} {ok : Nat → Prop} {w w' : World} {v : Value} {xs : List α} [Nonempty (Below w.heap.size w w')] (h : d.R e w base ok v xs) : d.R e w' base ok v xs := Kd.R_below h (upB w w')
theorem Cu {α : Type} {d : Kd α} {n : Nat} {w w' : World} {A : Option Addr} {xs : List α} [Nonempty (Below w.heap.size w w')] (h : d.C w A n xs) : d.C w' A n xs := Kd.C_below h (upB w w')
theorem Bu {w w' : World} {g : Nat} {o : Obj} [Nonempty (Below w.heap.size w w')] (h : w.heap[g]? = some o) : w'.heap[g]? = some o := blk_below h (upB w w')
theorem Hu {w0 w w' : World} [Nonempty (Below w.heap.size w w')] (h : Below w0.heap.size w0 w) : Below w0.heap.size w0 w' := h.trans ((upB w w').mono h.size)
theorem Rt1 {α β : Type} {d : Kd α} {d1 : Kd β} {e e1 base : Nat} {ok ok1 : Nat → Prop} {w W w1 : World} {v v1 : Value} {xs : List α} {ys : List β} [Nonempty (Below w.heap.size w W)] (h : d.R e w base ok v xs) (hb : Below W.heap.size W w1) (h0 : d1.R e1 w1 W.heap.size ok1 v1 ys) : d.R e w1 base (fun k => ok k ∧ some k ≠ v1.ownBlock) v xs := Kd.R_mono (Kd.R_told (Kd.R_old (Ru (w' := W) h) hb) (Kd.R_base h0)) (fun _ h_ => h_.1)
theorem Rt2 {α β γ : Type} {d : Kd α} {d1 : Kd β} {d2 : Kd γ} {e e1 e2 base : Nat} {ok ok1 ok2 : Nat → Prop} {w W w1 : World} {v v1 v2 : Value} {xs : List α} {ys : List β} {zs : List γ} [Nonempty (Below w.heap.size w W)] (h : d.R e w base ok v xs) (hb : Below W.heap.size W w1) (h0 : d1.R e1 w1 W.heap.size ok1 v1 ys) (h1 : d2.R e2 w1 W.heap.size ok2 v2 zs) : d.R e w1 base (fun k => (ok k ∧ some k ≠ v1.ownBlock) ∧ some k ≠ v2.ownBlock) v xs := Kd.R_mono (Kd.R_told (Kd.R_told (Kd.R_old (Ru (w' := W) h) hb) (Kd.R_base h0)) (Kd.R_base h1)) (fun _ h_ => h_.1)
theorem Rb {α : Type} {d : Kd α} {e base : Nat} {ok : Nat → Prop} {w W w1 : World} {v : Value} {xs : List α} [Nonempty (Below w.heap.size w W)] (h : d.R e w base ok v xs) (hb : Below W.heap.size W w1) : d.R e w1 base ok v xs := Kd.R_below (Ru (w' := W) h) hb
theorem HBs {w0 w : World} {g i : Nat} {u : Value} (h : Below w0.heap.size w0 w) (hg : Aside0 (w0.heap.size ≤ g)) : Below w0.heap.size w0 (w.setCell ⟨g, i, none⟩ u) := below_set h hg.out
theorem HBu {w0 w w' : World} (h : Below w0.heap.size w0 w) (k : Below w0.heap.size w0 w → Below w0.heap.size w0 w' := by intro h_; repeat (first | (with_reducible first | exact h_ | apply below_alloc | apply pw_below_drewN | apply below_drew1) | refine HBs ?_ (by assumption) | exact h_)) : Below w0.heap.size w0 w' := k h
theorem Rf2 {α : Type} {d : Kd α} {e base : Nat} {ok : Nat → Prop} {w : World} {v : Value} {xs : List α} (h : d.R e w base ok v xs) {g t : Nat} {cells : Array Value} (hb : w.heap[g]? = some (.cells cells t (0, 0))) (ht : ∀ q, q ∈ e :: d.E → q ≠ t) (a b : Value) : d.R e ((w.setCell ⟨g, 0, none⟩ a).setCell ⟨g, 1, none⟩ b) base ok v xs := Kd.R_mono (Kd.R_far (p := ⟨g, 1, none⟩) (Kd.R_far (p := ⟨g, 0, none⟩) (Kd.R_types h hb ht) (fun _ hk => hk.2) a) (fun _ hk => hk.2) b) (fun _ h_ => h_.1)
theorem Rf4 {α : Type} {d : Kd α} {e base : Nat} {ok : Nat → Prop} {w : World} {v : Value} {xs : List α} (h : d.R e w base ok v xs) {g t : Nat} {cells : Array Value} (hb : w.heap[g]? = some (.cells cells t (0, 0))) (ht : ∀ q, q ∈ e :: d.E → q ≠ t) (a b c f : Value) : d.R e ((((w.setCell ⟨g, 0, none⟩ a).setCell ⟨g, 1, none⟩ b).setCell ⟨g, 2, none⟩ c).setCell ⟨g, 3, none⟩ f) base ok v xs := Kd.R_mono (Kd.R_far (p := ⟨g, 3, none⟩) (Kd.R_far (p := ⟨g, 2, none⟩) (Kd.R_far (p := ⟨g, 1, none⟩) (Kd.R_far (p := ⟨g, 0, none⟩) (Kd.R_types h hb ht) (fun _ hk => hk.2) a) (fun _ hk => hk.2) b) (fun _ hk => hk.2) c) (fun _ hk => hk.2) f) (fun _ h_ => h_.1)
theorem Bb {w W w1 : World} {g : Nat} {o : Obj} [Nonempty (Below w.heap.size w W)] (h : w.heap[g]? = some o) (hb : Below W.heap.size W w1) : w1.heap[g]? = some o := blk_below (Bu (w' := W) h) hb

end Go.Proofs.Ytcpemdedmepfeab.PFnExactFold
