/- What the five listed variables hold, for a walk; a world that meets the condition. No conditions. -/
import Derived.Test.YtocjbedacnlaaaaGreatDoorRows
import Derived.Test.YtocjbedacnlaaaaGreatDoorHandA
import Derived.ProofKit
import Derived.ChangeSame
import Derived.ChangeVars
import Derived.JoinedOf
import Derived.RowKit
import Derived.RowKitTokens
import Derived.LaidLaws
import Derived.LaidHandle
import Derived.Stop.Joined
import Derived.Lib.LaidIn
import Derived.Lib.LaidU8T
namespace Go.Proofs.YtocjbedacnlaaaaGreatDoor.Laid
open Go.ChangeShapes Go.WideShapes Go.RowKit Go.Lib
open Go.Proofs.YtocjbedacnlaaaaGreatDoorW.PrintWords
noncomputable abbrev list5 : List (String × DataW Unit) := [("unicode/utf8.acceptRanges", Rows.laid_unicode_utf8_acceptRanges), ("errors.errorType", Rows.laid_errors_errorType), ("partita/pitch.halfTones", Rows.laid_partita_pitch_halfTones), ("partita/value.dotted", Rows.laid_partita_value_dotted), ("unicode/utf8.first", Rows.laid_unicode_utf8_first)]
theorem et : Tryz.prog.globalNamed "errors.errorType" = some 0 := by kernel_rfl
theorem rt : (Tryz.prog.cutTypes.find? (·.1 == "internal/reflectlite.rtype")).map (·.2) = some 126 := by kernel_rfl
theorem oneRow : ((List.range 209).filter fun t => Tryz.prog.rowNamed t [101, 114, 114, 111, 114]) = [64] := by kernel_rfl
theorem size : Tryz.prog.types.size = 209 := by kernel_rfl
theorem accept_is : (Rows.laid_unicode_utf8_acceptRanges : DataW Unit) = Lib.acceptData := by kernel_rfl
theorem first_is : Rows.laid_unicode_utf8_first = Lib.firstData := by kernel_rfl
theorem half_is : (Rows.laid_partita_pitch_halfTones : DataW Unit) = tabData .i64 [0, 2, 4, 5, 7, 9, 11] := by kernel_rfl
theorem dot_is : (Rows.laid_partita_value_dotted : DataW Unit) = .agg (([[1, 1], [3, 2], [7, 4]] : List (List Int)).map fun l => .agg (l.map fun z => .lit (.int .i64 z))) := by kernel_rfl
theorem isH : list5.filter (fun x => x.2.handleName?.isSome) = [("errors.errorType", Rows.laid_errors_errorType)] := by kernel_rfl
theorem isD : list5.filter (fun x => x.2.handleName?.isNone) = [("unicode/utf8.acceptRanges", Rows.laid_unicode_utf8_acceptRanges), ("partita/pitch.halfTones", Rows.laid_partita_pitch_halfTones), ("partita/value.dotted", Rows.laid_partita_value_dotted), ("unicode/utf8.first", Rows.laid_unicode_utf8_first)] := by kernel_rfl
theorem parts {W : World} (h : laidMetH Tryz.prog list5 W) : laidMet Tryz.prog [("unicode/utf8.acceptRanges", Rows.laid_unicode_utf8_acceptRanges), ("partita/pitch.halfTones", Rows.laid_partita_pitch_halfTones), ("partita/value.dotted", Rows.laid_partita_value_dotted), ("unicode/utf8.first", Rows.laid_unicode_utf8_first)] W ∧ handlesMet Tryz.prog [("errors.errorType", Rows.laid_errors_errorType)] W := by
  unfold laidMetH at h
  rw [isH] at h
  dsimp only at h
  rw [isD] at h
  exact h
theorem err_of {W : World} (h : handlesMet Tryz.prog [("errors.errorType", Rows.laid_errors_errorType)] W) : W.cell? ⟨0, 0, none⟩ = some (.iface 126 (.agg #[.pointer (some ⟨5, 64, none⟩)])) := by
  obtain ⟨name, u, ty, e1, e2, e3, e4, e5⟩ := h _ (List.mem_singleton.2 rfl)
  have en : name = [101, 114, 114, 111, 114] := (Option.some.inj e1).symm
  subst en
  obtain rfl := Option.some.inj (rt.symm.trans e2)
  have hm : ty ∈ (List.range 209).filter fun t => Tryz.prog.rowNamed t [101, 114, 114, 111, 114] := List.mem_filter.2 ⟨List.mem_range.2 (by rw [← size]; exact e3), e4⟩
  rw [oneRow] at hm
  obtain rfl := List.mem_singleton.1 hm
  have hh : typeHandle Tryz.prog 64 = .pointer (some ⟨5, 64, none⟩) := by kernel_rfl
  rw [hh] at e5
  have := World.var?_cell et e5 0
  simpa using this
theorem half_of {W : World} (h : VarReads Tryz.prog W "partita/pitch.halfTones" (tabData .i64 [0, 2, 4, 5, 7, 9, 11])) (i : Nat) (x : Int) (hx : ([0, 2, 4, 5, 7, 9, 11] : List Int)[i]? = some x) : W.cell? ⟨4, i, none⟩ = some (.int .i64 x) := by
  obtain ⟨g, t, cs, fuel, p, hg, hty, hvar, hd⟩ := h
  obtain rfl := Option.some.inj ((show Tryz.prog.globalNamed "partita/pitch.halfTones" = some 4 by kernel_rfl).symm.trans hg)
  obtain rfl := Option.some.inj ((show (Tryz.prog.globals[4]?).map (·.type) = some 177 by kernel_rfl).symm.trans hty)
  have hcs := cells_of_tab Tryz.underlying177 Tryz.underlying3 (by kernel_rfl) (by kernel_rfl) hd
  rw [World.var?_cell hg hvar i, ← Array.getElem?_toList, hcs, List.getElem?_map, hx]
  rfl
theorem dot_of {W : World} (h : VarReads Tryz.prog W "partita/value.dotted" (.agg (([[1, 1], [3, 2], [7, 4]] : List (List Int)).map fun l => .agg (l.map fun z => .lit (.int .i64 z))))) (i : Nat) (x : Int) (hx : ([1, 1, 3, 2, 7, 4] : List Int)[i]? = some x) : W.cell? ⟨1, i, none⟩ = some (.int .i64 x) := by
  obtain ⟨g, t, cs, fuel, p, hg, hty, hvar, hd⟩ := h
  obtain rfl := Option.some.inj ((show Tryz.prog.globalNamed "partita/value.dotted" = some 1 by kernel_rfl).symm.trans hg)
  obtain rfl := Option.some.inj ((show (Tryz.prog.globals[1]?).map (·.type) = some 152 by kernel_rfl).symm.trans hty)
  have key : ∀ j, j < 3 → ∀ l, ([[1, 1], [3, 2], [7, 4]] : List (List Int))[j]? = some l → (cs.toList.drop (j * 2)).take 2 = l.map fun z => Value.int .i64 z := by
    intro j hj l hl
    obtain ⟨fuel', d, q, hdi, he⟩ := array_elem Tryz.underlying152 hd j hj
    rw [List.getElem?_map, hl] at hdi
    obtain rfl := Option.some.inj hdi
    rw [show Tryz.prog.cellsOf 72 = 2 by kernel_rfl] at he
    have hlz : ∃ z1 z2 : Int, l = [z1, z2] := by
      match j, hj, hl with
      | 0, _, hl => exact ⟨_, _, (Option.some.inj hl).symm⟩
      | 1, _, hl => exact ⟨_, _, (Option.some.inj hl).symm⟩
      | 2, _, hl => exact ⟨_, _, (Option.some.inj hl).symm⟩
    exact ints_of_struct Tryz.underlying72 (fun j f hj => by
      match j, hj with
      | 0, hj => simp at hj; subst hj; exact ⟨Tryz.underlying3, rfl, by kernel_rfl⟩
      | 1, hj => simp at hj; subst hj; exact ⟨Tryz.underlying3, rfl, by kernel_rfl⟩
      | j + 2, hj => simp at hj) (by kernel_rfl) he
  have hc : cs.toList[i]? = some (.int .i64 x) := by
    have hj : i / 2 < 3 := by
      have : i < 6 := (List.getElem?_eq_some_iff.1 hx).1
      omega
    obtain ⟨l, hl⟩ : ∃ l, ([[1, 1], [3, 2], [7, 4]] : List (List Int))[i / 2]? = some l := ⟨_, List.getElem?_eq_getElem hj⟩
    have e := congrArg (·[i % 2]?) (key (i / 2) hj l hl)
    simp only [List.getElem?_take, List.getElem?_drop, List.getElem?_map] at e
    rw [if_pos (by omega), show i / 2 * 2 + i % 2 = i by omega] at e
    rw [e]
    match i, hx, hl with
    | 0, hx, hl => obtain rfl := Option.some.inj hx; obtain rfl := Option.some.inj hl; rfl
    | 1, hx, hl => obtain rfl := Option.some.inj hx; obtain rfl := Option.some.inj hl; rfl
    | 2, hx, hl => obtain rfl := Option.some.inj hx; obtain rfl := Option.some.inj hl; rfl
    | 3, hx, hl => obtain rfl := Option.some.inj hx; obtain rfl := Option.some.inj hl; rfl
    | 4, hx, hl => obtain rfl := Option.some.inj hx; obtain rfl := Option.some.inj hl; rfl
    | 5, hx, hl => obtain rfl := Option.some.inj hx; obtain rfl := Option.some.inj hl; rfl
    | i + 6, hx, hl => simp at hx
  rw [World.var?_cell hg hvar i, ← Array.getElem?_toList, hc]
theorem sents_of_laid {W : World} (hL : laidMetH Tryz.prog list5 W) : Aside0 (Q.SentsE W) := by
  obtain ⟨h, hh⟩ := parts hL
  have r4 := Lib.laidMet.reads h (n := "unicode/utf8.acceptRanges") (d := Rows.laid_unicode_utf8_acceptRanges) (.head _)
  have r5 := Lib.laidMet.reads h (n := "partita/pitch.halfTones") (d := Rows.laid_partita_pitch_halfTones) (.tail _ (.head _))
  have r6 := Lib.laidMet.reads h (n := "partita/value.dotted") (d := Rows.laid_partita_value_dotted) (.tail _ (.tail _ (.head _)))
  have r3 := Lib.laidMet.reads h (n := "unicode/utf8.first") (d := Rows.laid_unicode_utf8_first) (.tail _ (.tail _ (.tail _ (.head _))))
  rw [accept_is] at r4
  rw [half_is] at r5
  rw [dot_is] at r6
  rw [first_is] at r3
  exact ⟨⟨err_of hh, dot_of r6, half_of r5, utf8Tabs_of_readsT (U8Types.of196 Tryz.laysValid) ⟨by kernel_rfl, by kernel_rfl, by kernel_rfl, by kernel_rfl, by kernel_rfl, by kernel_rfl, by kernel_rfl⟩ r3 r4⟩⟩
noncomputable def laidWorld (os : Os) : World :=
  let w0 := World.holding Tryz.prog os ⟨#[], #[], []⟩
  let put (h : Array Obj) (g : Nat) (cs : Array Value) : Array Obj := h.modify g fun
    | .cells _ t frozen => .cells cs t frozen
    | o => o
  let h1 := put w0.heap 2 (Lib.firstTab.map fun z => Value.int .u8 z).toArray
  let h2 := put h1 3 ((List.range 16).flatMap fun i => [Value.int .u8 (Lib.accLo i), Value.int .u8 (Lib.accHi i)]).toArray
  let h3 := put h2 0 #[.iface 126 (.agg #[.pointer (some ⟨5, 64, none⟩)])]
  let h4 := put h3 1 (([1, 1, 3, 2, 7, 4] : List Int).map fun z => Value.int .i64 z).toArray
  let h5 := put h4 4 (([0, 2, 4, 5, 7, 9, 11] : List Int).map fun z => Value.int .i64 z).toArray
  { w0 with heap := h5 }
theorem laid_met (os : Os) (args : Array Value) : laidMetH Tryz.prog list5 ((laidWorld os).forCall (fun _ _ => 0) ⟨#[], args, []⟩).memory := by
  refine laidMetH_of_parts ?_ (by kernel_rfl)
  rw [isD, accept_is, half_is, dot_is, first_is]
  exact (LaidIn.of_run (l := [("unicode/utf8.acceptRanges", Lib.acceptData), ("partita/pitch.halfTones", tabData .i64 [0, 2, 4, 5, 7, 9, 11]), ("partita/value.dotted", .agg (([[1, 1], [3, 2], [7, 4]] : List (List Int)).map fun l => .agg (l.map fun z => .lit (.int .i64 z)))), ("unicode/utf8.first", Lib.firstData)]) [3, 4, 1, 2] 8 (by kernel_rfl) (by kernel_rfl) (by kernel_rfl) (by kernel_rfl)).met
end Go.Proofs.YtocjbedacnlaaaaGreatDoor.Laid
