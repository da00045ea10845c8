/- A voice of rests has no beams. No conditions. -/
import Derived.Test.YtocjbedacnlaaaaGreatDoorKinds
import Derived.Test.YtocjbedacnlaaaaGreatDoorQ33
import Derived.Test.YtocjbedacnlaaaaGreatDoorGP1
namespace Go.Proofs.YtocjbedacnlaaaaGreatDoor.Pure
open Go.RowKit Go.Proofs.YtocjbedacnlaaaaGreatDoor.Q Go.Proofs.YtocjbedacnlaaaaGreatDoorW.PrintWords Go.Proofs.YtocjbedacnlaaaaGreatDoorW.PrintMore
set_option linter.unusedVariables false
/-- A rest in an event's place. -/
def restOf (x : S41) : S41 := ⟨0, [], [], x.f3, [], ⟨#[]⟩⟩
theorem pln_nil : plnB ⟨#[]⟩ = true := by decide +kernel
theorem rest_r : (mrkB [] && ((([] : List Bool).length == ([] : List S43).length) && (([] : List S43).isEmpty && ((⟨#[]⟩ : ByteArray).toList.isEmpty && !([] : List Int).any unferB)))) = true := by decide +kernel
theorem rest_right {x : S41} (h : rightE x = true) : rightE (restOf x) = true := by
  have hv := rightE_val h
  unfold rightE restOf
  dsimp only
  rw [hv, pln_nil, if_pos rfl]
  exact rest_r
theorem rest_none {l : List S41} {bs ss : List S72} : ∀ (d i : Nat), grpG (l.map restOf) bs ss d i = [] := by
  have hm : ∀ i, mayE ((l.map restOf).getD i z41) = false := by
    intro i
    rw [List.getD_eq_getElem?_getD, List.getElem?_map]
    cases l[i]? with
    | none => rfl
    | some x => rfl
  have he : ∀ i, endN (l.map restOf) bs ss i = i := by
    intro i
    unfold endN
    cases (l.map restOf).length - i with
    | zero => rfl
    | succ d => rw [goE, if_neg (by unfold onE; rw [hm]; simp)]
  intro d
  induction d with
  | zero => intro i; rfl
  | succ d ih =>
    intro i
    rw [grpG]
    split
    · rw [he, if_neg (by omega), ih]; rfl
    · rfl
theorem rests_l0 {n d : Int} {g : List Int} {l : List S41} (hn : i64 n) (hd : i64 d) (hg : g.length ≤ 17592186044416) (hl : l.length ≤ 64) (he : groupsV n d g (l.map restOf) = ([], 0)) : ∀ (m k i : Nat), i + m = l.length → g.length + l.length + 60 + m ≤ k → partitalaw23_BeamRests.l0 k true (i : Int) n d g l ((l.take i).map restOf) = some true := by
  have hz : mks (l.map restOf) = 0 := by
    clear he hl
    induction l with
    | nil => rfl
    | cons x l ih => rw [List.map_cons]; show 0 + mks (l.map restOf) = 0; omega
  intro m
  induction m with
  | zero =>
    intro k i hi hk
    obtain ⟨k, rfl⟩ : ∃ j, k = j + 1 := ⟨k - 1, by omega⟩
    unfold partitalaw23_BeamRests.l0
    rw [if_neg (by omega), List.take_of_length_le (by omega), groups_f hn hd hg (fun x hx => by
      obtain ⟨y, _, rfl⟩ := List.mem_map.1 hx
      exact Nat.zero_le _) (by rw [List.length_map]; omega), he, Option.bind_some, if_pos rfl, if_pos rfl]
    rfl
  | succ m ih =>
    intro k i hi hk
    obtain ⟨k, rfl⟩ : ∃ j, k = j + 1 := ⟨k - 1, by omega⟩
    unfold partitalaw23_BeamRests.l0
    rw [if_pos (by omega), if_pos (by omega), if_pos (by rw [List.length_map, List.length_take]; omega), wrap64_id (n := (i : Int) + 1) (by unfold i64; omega), rdT41_at (show i < l.length by omega)]
    have e := ih k (i + 1) (by omega) (by omega)
    rw [List.take_succ_eq_append_getElem (by omega), List.map_append] at e
    exact e
theorem BeamRests : ∀ (x0 : S29) (x1 : S32), (wf29 x0) → (wf32 x1) → ∃ k, partitalaw23_BeamRests.f k x0.f0 x0.f1 x0.f2 x1.f0 = some true := by
  rintro ⟨n, d, g⟩ ⟨l⟩ h0 h1
  have hn := i64_of h0.1
  have hd := i64_of h0.2.1
  have hg : g.length ≤ 17592186044416 := by have := h0.2.2.1; dsimp only at this; omega
  have hm : ∀ x ∈ l, x.f4.length ≤ 9223372036854775807 := fun x hx => bz h1 hx
  refine ⟨g.length + mks l + l.length + 200, ?_⟩
  dsimp only
  unfold partitalaw23_BeamRests.f partitalaw23_shown.f
  rw [Option.bind_some, groups_f hn hd hg hm (by omega), Option.bind_some]
  by_cases h : (groupsV n d g l).2 = 0
  · rw [if_pos h]
    have e := groupsV_map restOf (fun _ => rfl) (fun x hx => rest_right hx) (fun x _ => rfl) h
    have hl : l.length ≤ 64 := (checkV_of (startsV_ok (groupsV_ok h).2.1).2.1).1
    refine rests_l0 hn hd hg hl (e.trans ?_) l.length _ 0 (by omega) (by omega)
    unfold grpL
    rw [rest_none]
    rfl
  · rw [if_neg h]
end Go.Proofs.YtocjbedacnlaaaaGreatDoor.Pure
