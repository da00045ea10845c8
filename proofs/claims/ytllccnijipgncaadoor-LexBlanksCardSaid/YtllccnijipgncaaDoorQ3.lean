-- Written by a program of this session (myprint.py), function by function.
import Derived.Test.YtllccnijipgncaaDoorQ0
import Derived.Test.YtllccnijipgncaaDoorPieceW
namespace Go.Proofs.YtllccnijipgncaaDoor.Q
open Go.RowKit Go.Proofs.YtllccnijipgncaaDoorW.PrintWords Go.Proofs.YtllccnijipgncaaDoorW.PrintLast Go.Proofs.YtllccnijipgncaaDoorW.PrintMore
attribute [local go_sem] max2_int min2_int max_two min_two max_three min_three max_four min_four   -- for this text's walks alone
set_option linter.unusedVariables false
set_option linter.unusedSimpArgs false

/-! ### lex_piece: function 25 -/
/-- The piece that begins at a place, and how many bytes it has. -/
def lex_piece.f (a0 : ByteArray) (a1 : Int) : Option (Int × ByteArray × Int × Int) := if a0.size ≤ 140737488355327 ∧ 0 ≤ a1 ∧ a1 < (a0.size : Int) then some ((pcT (a0.data.toList.drop a1.toNat)).1, ⟨(pcT (a0.data.toList.drop a1.toNat)).2.1.toArray⟩, a1, ((pcT (a0.data.toList.drop a1.toNat)).2.2 : Int)) else none
theorem lex_piece.calls (a0 : ByteArray) (a1 : Int) (r1_0 : Int) (r1_1 : ByteArray) (r1_2 : Int) (r2 : Int) (w : World) (h : lex_piece.f a0 a1 = some (r1_0, r1_1, r1_2, r2)) (TABS : Aside0 (TabsW w) := by exact tabs_step (by assumption) (by repeat (first | (with_reducible first | exact (by assumption : Aside0 (Below _ _ _)).out | apply below_alloc | apply pw_below_drewN | apply below_drew1)))) :
 Calls Tryd.prog 25 #[.string a0, .int .i64 a1] w fun e w' => e = .returned (.tuple #[.agg #[.int .i64 r1_0, .string r1_1, .int .i64 r1_2], .int .i64 r2]) ∧ Below w.heap.size w w' := by
  unfold lex_piece.f at h
  by_cases c : a0.size ≤ 140737488355327 ∧ 0 ≤ a1 ∧ a1 < (a0.size : Int)
  · rw [if_pos c] at h
    obtain ⟨n, rfl⟩ : ∃ n : Nat, a1 = n := ⟨a1.toNat, by omega⟩
    have := piece_calls a0 n w c.1 (by omega) TABS.out
    rw [Int.toNat_natCast] at h
    obtain ⟨rfl, h2⟩ := Prod.mk.inj (Option.some.inj h)
    obtain ⟨rfl, h3⟩ := Prod.mk.inj h2
    obtain ⟨rfl, rfl⟩ := Prod.mk.inj h3
    exact this
  · rw [if_neg c] at h; cases h

end Go.Proofs.YtllccnijipgncaaDoor.Q
