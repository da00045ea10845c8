import Derived.Test.YtbpcilbplgbonaaDoorAs2
import Derived.Test.YtbpcilbplgbonaaDoorQ0
import Derived.Shelf.Abstract
import Derived.IntWalk
import Derived.Deep.DeepMust
namespace Go.Proofs.YtbpcilbplgbonaaDoor.Q
open Go.RowKit Go.Proofs.YtbpcilbplgbonaaDoorW.PrintWords
set_option linter.unusedVariables false
set_option linter.unusedSimpArgs false
/-- What the listed variable holds. -/
def SentsE (w : World) : Prop := w.cell? ⟨0, 0, none⟩ = some (.iface 87 (.agg #[.pointer (some ⟨1, 51, none⟩)]))
theorem cell_lt {w : World} {p : Addr} {v : Value} (h : w.cell? p = some v) : p.block < w.heap.size := by
  rcases Nat.lt_or_ge p.block w.heap.size with h' | h'
  · exact h'
  · simp [World.cell?, Array.getElem?_eq_none h'] at h
theorem SentsE.below {w W : World} (h : SentsE w) (hb : Below w.heap.size w W) : SentsE W := (hb.cell (p := ⟨0, 0, none⟩) (cell_lt h)).trans h
theorem sents_step {w X : World} (h : Aside0 (SentsE w)) (hb : Below w.heap.size w X) : Aside0 (SentsE X) := ⟨h.out.below hb⟩
set_option maxHeartbeats 1000000 in
set_option maxRecDepth 100000 in
theorem told_none (w : World) : Calls Tryd.prog 19 #[errW none] w fun e w' => e = .returned (.int .i64 0) ∧ Below w.heap.size w w' := by
  have hu66 := Tryd.underlying66
  rw [errW_none]
  go_enter Tryd.func19, Tryd.ntmps19
  go_wp2_with (go_at_call 29; (with_reducible refine (as_nil _ _).mono ?_); rintro e w' ⟨rfl, rfl⟩)
  go_ret
  exact ⟨rfl, (Below.refl _ w).alloc (Nat.le_refl _) _⟩
set_option maxHeartbeats 4000000 in
set_option maxRecDepth 100000 in
theorem told_some (n : Int) (w : World) (hS : SentsE w) : Calls Tryd.prog 19 #[errW (some n)] w fun e w' => e = .returned (.int .i64 n) ∧ Below w.heap.size w w' := by
  have hu66 := Tryd.underlying66
  rw [errW_some]
  have hb : Below w.heap.size w (w.alloc (.cells #[.int .i64 0] 66)) := (Below.refl _ w).alloc (Nat.le_refl _) _
  have hg := hS.below hb
  have hA := as_hit n ⟨w.heap.size, 0, none⟩ (.int .i64 0) (w.alloc (.cells #[.int .i64 0] 66)) hg (by simp) (by simp)
  have hl : w.heap.size < (w.alloc (.cells #[.int .i64 0] 66)).heap.size := by simp
  have hc0 : (asW ⟨w.heap.size, 0, none⟩ n (w.alloc (.cells #[.int .i64 0] 66))).cell? ⟨w.heap.size, 0, none⟩ = some (.int .i64 0) := by
    unfold asW
    rw [World.cell?_alloc_lt _ _ ⟨w.heap.size, 0, none⟩ (by simp; omega), World.cell?_alloc_lt _ _ ⟨w.heap.size, 0, none⟩ (by simp; omega), World.cell?_alloc_lt _ _ ⟨w.heap.size, 0, none⟩ (by simp; omega), World.cell?_alloc_lt _ _ ⟨w.heap.size, 0, none⟩ (by simp)]
    exact World.cell?_alloc_at _ _ _ _ (by simp)
  have hbb : Below w.heap.size w ((asW ⟨w.heap.size, 0, none⟩ n (w.alloc (.cells #[.int .i64 0] 66))).setCell ⟨w.heap.size, 0, none⟩ (.int .i64 n)) :=
    ((((hb.alloc (by simp) _).alloc (by simp; omega) _).alloc (by simp; omega) _).alloc (by simp; omega) _).setCell (p := ⟨w.heap.size, 0, none⟩) (Nat.le_refl _) _
  have hP : Calls Tryd.prog 29 #[.iface 66 (.agg #[.int .i64 n]), .iface 68 (.pointer (some ⟨w.heap.size, 0, none⟩))] (w.alloc (.cells #[.int .i64 0] 66)) fun e W => e = .returned (.bool true) ∧ W.cell? ⟨w.heap.size, 0, none⟩ = some (.int .i64 n) ∧ Below w.heap.size w W :=
    hA.mono fun e W h => ⟨h.1, by rw [h.2]; exact World.cell?_setCell_same _ _ _ hc0, by rw [h.2]; exact hbb⟩
  have hP' := Aside0.mk hP
  clear hA hg hbb hc0 hP hl
  go_enter Tryd.func19, Tryd.ntmps19
  go_wp2_with (go_at_call 29; go_must (with_reducible refine hP'.out.mono ?_; rintro e w' ⟨rfl, hc, hb'⟩))
  go_ret
  exact ⟨rfl, hb'⟩
end Go.Proofs.YtbpcilbplgbonaaDoor.Q
