/- What the two listed variables hold, for a walk; a world that meets the condition. No conditions. -/
import Derived.Test.YtneaoicjbiebkaaDoorRows
import Derived.Test.YtneaoicjbiebkaaDoorTold
import Derived.ProofKit
import Derived.ChangeVars
import Derived.JoinedOf
import Derived.RowKitTokens
import Derived.LaidLaws
import Derived.LaidHandle
import Derived.Stop.Joined
import Derived.Stop.LaidErr
import Derived.Stop.LaidTwo
import Derived.Stop.Texts
namespace Go.Proofs.YtneaoicjbiebkaaDoor.Laid
open Go.ChangeShapes Go.WideShapes Go.ChangeAt Go.RowKit Go.Kit
open Go.Extern.Stop Go.Stop Go.Extern
open Go.Proofs.YtneaoicjbiebkaaDoorW.PrintWords
theorem g0 : Tryd.prog.globalNamed "partita/systems.errArg" = some 0 := by kernel_rfl
theorem g1 : Tryd.prog.globalNamed "partita/systems.errBreak" = some 1 := by kernel_rfl
theorem g0Type : (Tryd.prog.globals[0]?).map (·.type) = some 51 := by kernel_rfl
theorem g1Type : (Tryd.prog.globals[1]?).map (·.type) = some 51 := by kernel_rfl
theorem cellsE : Tryd.prog.cellsOf 110 = 1 := by kernel_rfl
theorem cellsS : Tryd.prog.cellsOf 9 = 1 := by kernel_rfl
theorem star : "*" ++ "errors.errorString" = "*errors.errorString" := by decide
theorem rowP (u : TypeId) (h : Tryd.prog.typeName? 3 u = some "*errors.errorString") : u = 84 :=
  typeName_ptr_named (nm := "errors.errorString") (by rw [star]; kernel_rfl) (by kernel_rfl) (by decide) u (by rw [star]; exact h)
abbrev sA : ByteArray := { data := #[110, 111, 32, 98, 97, 114, 115] }
abbrev sB : ByteArray := { data := #[116, 111, 111, 32, 119, 105, 100, 101] }
abbrev list2 : List (String × DataW Unit) := [("partita/systems.errArg", Rows.laid_partita_systems_errArg), ("partita/systems.errBreak", Rows.laid_partita_systems_errBreak)]
noncomputable def low : Nat := (World.holding Tryd.prog default ⟨#[], #[], []⟩).heap.size
noncomputable def laidWorld (os : Os) : World :=
  let w0 := World.holding Tryd.prog os ⟨#[.cells #[.string sA] 110, .cells #[.string sB] 110], #[], []⟩
  { w0 with heap := (w0.heap.modify 0 fun
      | .cells _ t frozen => .cells #[.iface 84 (.pointer (some ⟨low, 0, none⟩))] t frozen
      | o => o).modify 1 fun
      | .cells _ t frozen => .cells #[.iface 84 (.pointer (some ⟨low + 1, 0, none⟩))] t frozen
      | o => o }
theorem laid_met (os : Os) (args : Array Value) : laidMetH Tryd.prog list2 ((laidWorld os).forCall (fun _ _ => 0) ⟨#[], args, []⟩).memory :=
  laidMetH_of_parts (laidMet_of_run (ps := [.cell 0 0, .cell low 0, .cell 1 0, .cell (low + 1) 0]) 8 (by kernel_rfl) (by kernel_rfl) (by kernel_rfl)) (by kernel_rfl)
theorem sents_of_laid {W : World} (hL : laidMetH Tryd.prog list2 W) : Aside0 (Q.SentsE W) := by
  have h : laidMet Tryd.prog list2 W := hL
  obtain ⟨a0, a1, s0, s1, c0, c1, t0, t1, hv0, hv1, hc0, hs0, hz0, hc1, hs1, hz1, hne, hb0, hb1⟩ := laid_sentinels2 h g0 g0Type g1 g1Type Tryd.underlying51 rowP Tryd.underlying84 Tryd.underlying110 rfl rfl Tryd.underlying9 cellsE cellsS
  exact ⟨⟨a0, a1, by simpa using World.var?_cell g0 hv0 0, by simpa using World.var?_cell g1 hv1 0, hne, ⟨c0, t0, hb0⟩, ⟨c1, t1, hb1⟩⟩⟩
end Go.Proofs.YtneaoicjbiebkaaDoor.Laid
