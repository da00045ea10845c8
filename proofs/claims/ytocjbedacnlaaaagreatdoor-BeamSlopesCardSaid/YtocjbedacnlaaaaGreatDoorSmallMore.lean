/- Small facts on min and max, and two gates of a walk. No conditions. -/
import Derived.Test.YtocjbedacnlaaaaGreatDoorWWords
import Derived.Test.YtocjbedacnlaaaaGreatDoorWLast
namespace Go.Proofs.YtocjbedacnlaaaaGreatDoorW.PrintMore
open Go.RowKit Go.Proofs.YtocjbedacnlaaaaGreatDoorW.PrintWords
theorem max2_int (k k' : IntKind) (x y : Int) : Builtin.max2 (.int k x) (.int k' y) = pure (.int k (if x < y then y else x)) := by simp only [Builtin.max2, gt_iff_lt]
theorem min2_int (k k' : IntKind) (x y : Int) : Builtin.min2 (.int k x) (.int k' y) = pure (.int k (if y < x then y else x)) := by simp only [Builtin.min2]
theorem max_two (ats : Array TypeId) (ty : TypeId) (a b : Value) : Builtin.max_ ats ty #[a, b] = (Builtin.max2 a b >>= fun s => pure s) := by simp only [Builtin.max_, List.foldlM_cons, List.foldlM_nil]
theorem min_two (ats : Array TypeId) (ty : TypeId) (a b : Value) : Builtin.min_ ats ty #[a, b] = (Builtin.min2 a b >>= fun s => pure s) := by simp only [Builtin.min_, List.foldlM_cons, List.foldlM_nil]
theorem max_three (ats : Array TypeId) (ty : TypeId) (a b c : Value) : Builtin.max_ ats ty #[a, b, c] = (Builtin.max2 a b >>= fun s => Builtin.max2 s c >>= fun s => pure s) := by simp only [Builtin.max_, List.foldlM_cons, List.foldlM_nil]
theorem min_three (ats : Array TypeId) (ty : TypeId) (a b c : Value) : Builtin.min_ ats ty #[a, b, c] = (Builtin.min2 a b >>= fun s => Builtin.min2 s c >>= fun s => pure s) := by simp only [Builtin.min_, List.foldlM_cons, List.foldlM_nil]
theorem max_four (ats : Array TypeId) (ty : TypeId) (a b c d : Value) : Builtin.max_ ats ty #[a, b, c, d] = (Builtin.max2 a b >>= fun s => Builtin.max2 s c >>= fun s => Builtin.max2 s d >>= fun s => pure s) := by simp only [Builtin.max_, List.foldlM_cons, List.foldlM_nil]
theorem min_four (ats : Array TypeId) (ty : TypeId) (a b c d : Value) : Builtin.min_ ats ty #[a, b, c, d] = (Builtin.min2 a b >>= fun s => Builtin.min2 s c >>= fun s => Builtin.min2 s d >>= fun s => pure s) := by simp only [Builtin.min_, List.foldlM_cons, List.foldlM_nil]
/-- The greater, the lesser of two. -/
def mx (a b : Int) : Int := if a < b then b else a
def mn (a b : Int) : Int := if b < a then b else a
/- Three of Lean's own lemmas under short names: they stand hundreds of times. -/
theorem qa_ {α : Type} (l : List α) (i : Nat) (a : α) : l.toArray.setIfInBounds i a = (l.set i a).toArray := List.setIfInBounds_toArray _ _ _
theorem qz_ {α : Type} (a b : α) (l : List α) : (a :: l).set 0 b = b :: l := rfl
theorem qs_ {α : Type} (a b : α) (l : List α) (n : Nat) : (a :: l).set (n + 1) b = a :: l.set n b := rfl
/-- A shift to the left by a count that was reckoned. -/
def shl (k : IntKind) (x y : Int) : Int := k.wrap (x * 2 ^ min y.toNat k.bits)
theorem drewN_self (w : World) (n : Nat) : w.drewN n = w.drewN n := rfl
/- What held of a world holds of one that has new blocks, or has drawn: found by the class Nonempty, in place of long blocks of tactics (wip/tools/squeeze.py). -/
def Lat (w W : World) : Prop := Below w.heap.size w W
instance Lat.i0 {w : World} : Nonempty (Lat w w) := ⟨Below.refl _ _⟩
instance Lat.i1 {w W : World} {o : Obj} [h : Nonempty (Lat w W)] : Nonempty (Lat w (W.alloc o)) := ⟨below_alloc (h.elim id) o⟩
instance Lat.i2 {w W : World} {n : Nat} [h : Nonempty (Lat w W)] : Nonempty (Lat w (W.drewN n)) := ⟨pw_below_drewN (show Below w.heap.size w W from h.elim id) n⟩
instance Lat.i3 {w W : World} [h : Nonempty (Lat w W)] : Nonempty (Lat w W.drew) := ⟨below_drew1 (show Below w.heap.size w W from h.elim id)⟩
theorem qR {α : Type} {d : Kd α} {e base : Nat} {w W : World} {ok : Nat → Prop} {v : Value} {xs : List α} (h : d.R e w base ok v xs) [k : Nonempty (Lat w W)] : d.R e W base ok v xs := Kd.R_below h (k.elim id)
theorem qB {w W : World} {g : Nat} {o : Obj} (h : w.heap[g]? = some o) [k : Nonempty (Lat w W)] : W.heap[g]? = some o := blk_below h (k.elim id)
section
variable {P : Program} {ops : Array Oper} {Q : Exit → Act → World → Prop} {a : Act} {W : World} {o : Oper} {rest : List Oper}
theorem gate_builtin {b : Builtin} {xs : Array Operand} {ts : Array TypeId} (_ho : o.op = .call { callee := .builtin b, args := xs, argTypes := ts }) (h : wpList P ops Q (o :: rest) a W) : wpList P ops Q (o :: rest) a W := h
theorem gate_callee {f : FuncId} {as : Array Operand} {ts : Array TypeId} (_ho : o.op = .call { callee := .value (.func f), args := as, argTypes := ts }) (h : wpList P ops Q (o :: rest) a W) : wpList P ops Q (o :: rest) a W := h
end
end Go.Proofs.YtocjbedacnlaaaaGreatDoorW.PrintMore
