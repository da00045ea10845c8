-- Written by a program of this session (myprint.py), function by function.
import Derived.Test.YtocjbedacnlaaaaGreatDoorQ0
import Derived.Test.YtocjbedacnlaaaaGreatDoorQ6
import Derived.Test.YtocjbedacnlaaaaGreatDoorQ8
import Derived.Test.YtocjbedacnlaaaaGreatDoorQ18
import Derived.BigRegion
import Derived.ChangeAlike
import Derived.IntWalk
import Derived.Maps.AppendAt
import Derived.RegionTactic
import Derived.Shelf.Abstract
namespace Go.Proofs.YtocjbedacnlaaaaGreatDoor.Q
open Go.RowKit Go.Proofs.YtocjbedacnlaaaaGreatDoorW.PrintWords Go.Proofs.YtocjbedacnlaaaaGreatDoorW.PrintLast Go.Proofs.YtocjbedacnlaaaaGreatDoorW.PrintMore
attribute [local go_sem] max2_int min2_int max_two min_two max_three min_three max_four min_four   -- for this text's walks alone
set_option linter.unusedVariables false
set_option linter.unusedSimpArgs false

/-! ### partitaref05_Beats: function 30 -/
/-- The document's beats: from a place on. -/
def beatsR (k : Nat) (d : Int) : List Int → Int → Option (List S72)
  | [], _ => some []
  | g :: G, a => (partitaref01_Of.f k a d).bind fun r => (beatsR k d G (a + g)).bind fun m => some (⟨r.1, r.2.1⟩ :: m)
def flatS (ps : List S72) : List Value := ps.flatMap fun p => [.int .i64 p.f0, .int .i64 p.f1]
/-! ### partitaref04_Right: function 104 -/
end Go.Proofs.YtocjbedacnlaaaaGreatDoor.Q
