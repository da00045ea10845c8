/- Is a byte a sign: the walk over a range over a constant text. No conditions. -/
import Derived.Test.YtllccnijipgncaaDoorQ0
import Derived.Shelf.Abstract
import Derived.WalkKit
import Derived.BigCall
import Derived.Below
import Derived.Lib.OthersKept
namespace Go.Proofs.YtllccnijipgncaaDoor.Q
open Go.RowKit Go.Shelf Go.Proofs.YtllccnijipgncaaDoorW.PrintWords
set_option linter.unusedVariables false
set_option linter.unusedSimpArgs false
/-- The signs. -/
abbrev sgL : List UInt8 := [33, 36, 37, 38, 39, 40, 41, 42, 43, 44, 45, 46, 47, 58, 59, 60, 61, 62, 63, 64, 91, 93, 94, 96, 123, 125, 126, 124]
abbrev sgA : ByteArray := ⟨sgL.toArray⟩
def sgB (c : UInt8) : Bool := sgL.contains c
theorem sg_ascii : ∀ k : Fin 28, ((sgA[k.val]'(k.2)).toNat < 128) := by decide
set_option maxHeartbeats 4000000 in
set_option maxRecDepth 100000 in
theorem sign_w (c : UInt8) (w : World) : Calls Tryd.prog 39 #[.int .u8 (c.toNat : Int)] w fun e w' => e = .returned (.bool (sgB c)) ∧ Below w.heap.size w w' := by
  obtain ⟨B, hB⟩ : ∃ B, sgB c = B := ⟨_, rfl⟩
  rw [hB]
  have HB := Aside0.mk hB
  clear hB
  have hcl : c.toNat < 256 := c.toNat_lt
  go_enter Tryd.func39, Tryd.ntmps39
  go_wp2
  go_loopw [4] (fun r wr => ∃ pos : Nat, pos ≤ 28 ∧ wr.heap[w.heap.size]? = some (.stringIter sgA pos) ∧ Below w.heap.size w wr ∧ (sgL.drop pos).contains c = B) (fun _ wr => 28 - wr.iterPos w.heap.size)
  case atStart =>
    refine ⟨0, by omega, ?_, (Below.refl _ w).alloc (Nat.le_refl _) _, HB.out⟩
    simpa using World.iter_heap w sgA 0
  case round =>
    obtain ⟨pos, hp28, hit, hbw, hc⟩ := hrel
    have hsz : w.heap.size < wr.heap.size := (Array.getElem?_eq_some_iff.1 hit).1
    by_cases hp : pos < 28
    · have ha := sg_ascii ⟨pos, hp⟩
      have hnx : ∀ ty, (Instr.next (.pointer (some ⟨w.heap.size, 0, none⟩)) true ty).run Tryd.prog wr = _ := fun ty => Lib.run_next_ascii_at wr w.heap.size sgA pos ty hit hp ha
      have hit2 := Lib.iterAt_heap wr w.heap.size sgA pos (pos + 1) hit
      have hbw2 := Lib.below_iterAt hbw (k := w.heap.size) (Nat.le_refl _) sgA (pos + 1)
      have hdr : sgL.drop pos = sgL[pos] :: sgL.drop (pos + 1) := List.drop_eq_getElem_cons hp
      have hgl : sgA[pos] = sgL[pos] := rfl
      rw [hdr, List.contains_cons] at hc
      obtain ⟨x, hx⟩ : ∃ x, sgL[pos] = x := ⟨_, rfl⟩
      rw [hgl, hx] at hnx
      rw [hx] at hc
      clear hdr hgl hx ha
      by_cases he : x = c
      · subst he
        obtain rfl : true = B := by rw [← hc]; simp
        have h1 : ((x.toNat : Int) == (x.toNat : Int)) = true := by simp
        clear hc HB
        go_wp2
        go_ret
        exact ⟨rfl, hbw2⟩
      · have h1 : ((x.toNat : Int) == (c.toNat : Int)) = false := by
          rw [beq_eq_false_iff_ne]; intro h; apply he; apply UInt8.toNat_inj.1; omega
        have HC : Aside0 ((sgL.drop (pos + 1)).contains c = B) := ⟨by rw [← hc]; simp [show ¬ c = x from fun h => he h.symm]⟩
        clear hc he
        go_wp2
        go_roundw
        case rel => exact ⟨pos + 1, by omega, hit2, hbw2, HC.out⟩
        case measure =>
          simp only [World.iterPos, hit2, hit]
          omega
    · have hnx : ∀ ty, (Instr.next (.pointer (some ⟨w.heap.size, 0, none⟩)) true ty).run Tryd.prog wr = _ := fun ty => Lib.run_next_end_at wr w.heap.size sgA pos ty hit hp
      obtain rfl : false = B := by rw [← hc, List.drop_of_length_le (by simp; omega)]; rfl
      clear hc HB
      go_wp2
      go_ret
      exact ⟨rfl, hbw⟩
end Go.Proofs.YtllccnijipgncaaDoor.Q
