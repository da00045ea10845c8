import Derived.Test.YtneaoicjbiebkaaDoorIs
import Derived.Test.YtneaoicjbiebkaaDoorQ2
import Derived.Shelf.Abstract
import Derived.RegionTactic
import Derived.ChangeAlike
import Derived.IntWalk
namespace Go.Proofs.YtneaoicjbiebkaaDoor.Q
open Go.RowKit Go.Proofs.YtneaoicjbiebkaaDoorW.PrintWords Go.Proofs.YtneaoicjbiebkaaDoorW.PrintLast
set_option linter.unusedVariables false
set_option linter.unusedSimpArgs false
/-- What the two variables hold: pointers to two rows of their own. -/
def Sents (w : World) (a0 a1 : Addr) : Prop :=
  w.cell? ⟨0, 0, none⟩ = some (.iface 84 (.pointer (some a0))) ∧ w.cell? ⟨1, 0, none⟩ = some (.iface 84 (.pointer (some a1))) ∧ a0 ≠ a1 ∧ (∃ c t, w.heap[a0.block]? = some (.cells c t (0, 0))) ∧ (∃ c t, w.heap[a1.block]? = some (.cells c t (0, 0)))
theorem cell_lt {w : World} {p : Addr} {v : Value} (h : w.cell? p = some v) : p.block < w.heap.size := by
  rcases Nat.lt_or_ge p.block w.heap.size with h' | h'
  · exact h'
  · simp [World.cell?, Array.getElem?_eq_none h'] at h
theorem Sents.below {w W : World} {a0 a1 : Addr} (h : Sents w a0 a1) (hb : Below w.heap.size w W) : Sents W a0 a1 := by
  obtain ⟨h0, h1, hne, ⟨c0, t0, k0⟩, ⟨c1, t1, k1⟩⟩ := h
  exact ⟨(hb.cell (p := ⟨0, 0, none⟩) (cell_lt h0)).trans h0, (hb.cell (p := ⟨1, 0, none⟩) (cell_lt h1)).trans h1, hne, ⟨c0, t0, (hb.block _ (blk_lt k0)).trans k0⟩, ⟨c1, t1, (hb.block _ (blk_lt k1)).trans k1⟩⟩
def SentsE (w : World) : Prop := ∃ a0 a1, Sents w a0 a1
theorem sents_step {w X : World} (h : Aside0 (SentsE w)) (hb : Below w.heap.size w X) : Aside0 (SentsE X) := by
  obtain ⟨a0, a1, hs⟩ := h.out
  exact ⟨⟨a0, a1, hs.below hb⟩⟩
set_option maxHeartbeats 1000000 in
set_option maxRecDepth 100000 in
theorem told_arg (a0 a1 : Addr) (w : World) (h : Sents w a0 a1) : Calls Tryd.prog 22 #[.iface 84 (.pointer (some a0))] w fun e w' => e = .returned (.int .i64 2) ∧ w' = w := by
  obtain ⟨h0, h1, hne, ⟨c0, t0, k0⟩, ⟨c1, t1, k1⟩⟩ := h
  go_enter Tryd.func22, Tryd.ntmps22
  go_wp2_with (go_at_call 28; (with_reducible refine (is_same a0 _).mono ?_); rintro e w' ⟨rfl, rfl⟩)
  go_ret
  exact ⟨rfl, rfl⟩
set_option maxHeartbeats 1000000 in
set_option maxRecDepth 100000 in
theorem told_break (a0 a1 : Addr) (w : World) (h : Sents w a0 a1) : Calls Tryd.prog 22 #[.iface 84 (.pointer (some a1))] w fun e w' => e = .returned (.int .i64 250) ∧ w' = w := by
  obtain ⟨h0, h1, hne, ⟨c0, t0, k0⟩, ⟨c1, t1, k1⟩⟩ := h
  go_enter Tryd.func22, Tryd.ntmps22
  go_wp2_with (first | (go_at_call 28; (with_reducible refine (is_other a1 a0 c1 c0 t1 t0 _ (Ne.symm hne) k1 k0).mono ?_); rintro e w' ⟨rfl, rfl⟩) | (go_at_call 28; (with_reducible refine (is_same a1 _).mono ?_); rintro e w' ⟨rfl, rfl⟩))
  go_ret
  exact ⟨rfl, rfl⟩
end Go.Proofs.YtneaoicjbiebkaaDoor.Q
