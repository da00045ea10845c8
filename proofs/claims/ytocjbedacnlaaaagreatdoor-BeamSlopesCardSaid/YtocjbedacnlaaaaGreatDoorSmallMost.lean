/- What lay below the call's own blocks stays as it was: found by the class Nonempty (wip/tools/squeeze2.py). No conditions. -/
import Derived.Test.YtocjbedacnlaaaaGreatDoorSmallMore
namespace Go.Proofs.YtocjbedacnlaaaaGreatDoorW.PrintMore
open Go.RowKit Go.Proofs.YtocjbedacnlaaaaGreatDoorW.PrintWords
/- The same, for what lay below the call's own blocks: a store into one of these is let by where it is known that it is one of these. -/
def Lag (n : Nat) (w W : World) : Prop := ∀ w0 : World, w0.heap.size = n → Below n w0 w → Below n w0 W
instance Lag.i0 {n : Nat} {w : World} : Nonempty (Lag n w w) := ⟨fun _ _ h => h⟩
instance Lag.i1 {n : Nat} {w W : World} {o : Obj} [h : Nonempty (Lag n w W)] : Nonempty (Lag n w (W.alloc o)) := ⟨fun w0 e k => by subst e; exact below_alloc (h.elim id w0 rfl k) o⟩
instance Lag.i2 {n : Nat} {w W : World} {m : Nat} [h : Nonempty (Lag n w W)] : Nonempty (Lag n w (W.drewN m)) := ⟨fun w0 e k => pw_below_drewN (h.elim id w0 e k) m⟩
instance Lag.i3 {n : Nat} {w W : World} [h : Nonempty (Lag n w W)] : Nonempty (Lag n w W.drew) := ⟨fun w0 e k => below_drew1 (h.elim id w0 e k)⟩
instance Lag.i4 {n : Nat} {w W : World} {b j : Nat} {v : Value} [h : Nonempty (Lag n w W)] [g : Nonempty (n ≤ b)] : Nonempty (Lag n w (W.setCell ⟨b, j, none⟩ v)) := ⟨fun w0 e k => by subst e; exact below_set (h.elim id w0 rfl k) (g.elim id)⟩
theorem qW {w0 w W : World} (h : Below w0.heap.size w0 w) [k : Nonempty (Lag w0.heap.size w W)] : Below w0.heap.size w0 W := k.elim id w0 rfl h
theorem qS {w0 w W : World} {g : Nat} (h : Aside0 (Below w0.heap.size w0 w)) (hg : g = W.heap.size) [k : Nonempty (Lag w0.heap.size w W)] : Nonempty (w0.heap.size ≤ g) := ⟨by rw [hg]; exact (qW h.out).size⟩
theorem qT {w0 w W : World} {g : Nat} (h : Aside0 (Below w0.heap.size w0 w)) (hg : g = W.heap.size) [k : Nonempty (Lag w0.heap.size w W)] : Aside0 (w0.heap.size ≤ g) := ⟨by rw [hg]; exact (qW h.out).size⟩
theorem qL {w W : World} {g b : Nat} {o : Obj} (h : Aside0 (w.heap[b]? = some o)) (hg : g = W.heap.size) [k : Nonempty (Lat w W)] : Aside0 (b ≠ g) := ⟨by rw [hg]; exact Nat.ne_of_lt (blk_lt (qB h.out))⟩
theorem qM {w W : World} {g b : Nat} {o : Obj} (h : Aside0 (w.heap[b]? = some o)) (hg : g = W.heap.size) [k : Nonempty (Lat w W)] : Aside0 (g ≠ b) := ⟨by rw [hg]; exact Nat.ne_of_gt (blk_lt (qB h.out))⟩
theorem qD {w W W1 : World} {g : Nat} {o : Obj} (h : Aside0 (w.heap[g]? = some o)) (hb : Below W.heap.size W W1) [k : Nonempty (Lat w W)] : Aside0 (W1.heap[g]? = some o) := ⟨blk_below (qB h.out) hb⟩
theorem qE {α : Type} {d : Kd α} {e base : Nat} {w W W1 : World} {ok : Nat → Prop} {v : Value} {xs : List α} (h : Aside0 (d.R e w base ok v xs)) (hb : Below W.heap.size W W1) [k : Nonempty (Lat w W)] : Aside0 (d.R e W1 base ok v xs) := ⟨Kd.R_below (qR h.out) hb⟩
theorem qC {W : World} {g t : Nat} {cs : Array Value} (h : Aside0 (W.heap[g]? = some (.cells cs t (0, 0)))) (i : Nat) {v : Value} (e : cs[i]? = some v) : W.cell? ⟨g, i, none⟩ = some v := (blk_cell h.out i).trans e
end Go.Proofs.YtocjbedacnlaaaaGreatDoorW.PrintMore
