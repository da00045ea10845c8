/- SystemsWhole: the plain law. No conditions. -/
import Derived.Test.YtneaoicjbiebkaaDoorSP5
import Derived.Test.YtneaoicjbiebkaaDoorQ10
namespace Go.Proofs.YtneaoicjbiebkaaDoor.Pure
open Go.RowKit Go.Proofs.YtneaoicjbiebkaaDoor.Q Go.Proofs.YtneaoicjbiebkaaDoorW.PrintWords Go.Proofs.YtneaoicjbiebkaaDoorW.PrintMore
set_option linter.unusedVariables false
theorem whole_l0 {ws ss : List Int} {line : Int} (R : Right ws ss line) (L : List S38) (hL : L.length ≤ 100) (h1 : L ≠ []) (hg : laidG ws ss line 0 (L.map (·.f1)) = some L) (hlast : (L.map (·.f1)).getLast? = some (ws.length : Int)) :
    ∀ (d i k : Nat), L.length = i + d + 1 → d + 30000 ≤ k → partitalaw25_SystemsWhole.l0 k ws ss line true L ((L.take i).map (·.f1)) i = some true
  | 0, i, k, e, hk => by
    obtain ⟨k, rfl⟩ : ∃ k', k = k' + 1 := ⟨k - 1, by omega⟩
    simp only [partitalaw25_SystemsWhole.l0]
    have hw : wrap64 ((i : Int) + 1) = ((i + 1 : Nat) : Int) := by unfold wrap64; omega
    rw [hw, if_neg (by omega), laid_f R _ (by rw [List.length_map, List.length_take]; omega) (by rw [List.length_map, List.length_take]; omega), Option.bind_some, if_pos trivial]
    have hi : i < L.length := by omega
    have e2 : (L.take i).map (·.f1) ++ [(ws.length : Int)] = L.map (·.f1) := by
      have q : L = L.take i ++ [L[i]] := by
        conv => lhs; rw [← List.take_append_drop i L]
        rw [List.drop_eq_getElem_cons hi, List.drop_eq_nil_of_le (by omega)]
      have q2 : L[i].f1 = (ws.length : Int) := by
        rw [q, List.map_append, List.map_singleton, List.getLast?_append] at hlast
        simpa using hlast
      conv => rhs; rw [q, List.map_append, List.map_singleton, q2]
    rw [e2, hg]
    show (if true = true then _ else _) = _
    rw [if_pos rfl]
    show (partitaref25_Same.f k L ([] ++ L)).bind _ = _
    rw [List.nil_append, same_self _ (by omega) (by omega)]; rfl
  | d + 1, i, k, e, hk => by
    obtain ⟨k, rfl⟩ : ∃ k', k = k' + 1 := ⟨k - 1, by omega⟩
    simp only [partitalaw25_SystemsWhole.l0]
    have hw : wrap64 ((i : Int) + 1) = ((i + 1 : Nat) : Int) := by unfold wrap64; omega
    have hi : i < L.length := by omega
    rw [hw, if_pos (by omega), if_pos (by omega), if_pos (by omega), if_pos (by rw [List.length_map, List.length_take]; omega), rd38_at hi]
    have e1 : (L.take i).map (·.f1) ++ [L[i].f1] = (L.take (i + 1)).map (·.f1) := by rw [List.take_add_one, List.getElem?_eq_getElem hi, List.map_append]; rfl
    rw [e1]
    exact whole_l0 R L hL h1 hg hlast d (i + 1) k (by omega) (by omega)
theorem SystemsWhole : ∀ (l0 : List Int) (l1 : List Int) (a2 : Int), (l0.length * 8 ≤ 140737488351232 ∧ ∀ y ∈ l0, (Lit.int .i64 y).wf = true) → (l1.length * 8 ≤ 140737488351232 ∧ ∀ y ∈ l1, (Lit.int .i64 y).wf = true) → ((Lit.int .i64 a2).wf = true) → ∃ k, partitalaw25_SystemsWhole.f k l0 l1 a2 = some true := by
  intro l0 l1 line _ _ _
  refine ⟨40000, ?_⟩
  unfold partitalaw25_SystemsWhole.f
  rw [shown_ok (by omega), Option.bind_some, few_if _ 101 (by omega), Option.bind_some, few_if _ 101 (by omega), Option.bind_some]
  obtain ⟨ws, hws⟩ : ∃ ws, l0.take ((mn (l0.length : Int) 101) : Int).toNat = ws := ⟨_, rfl⟩
  obtain ⟨ss, hss⟩ : ∃ ss, l1.take ((mn (l1.length : Int) 101) : Int).toNat = ss := ⟨_, rfl⟩
  rw [hws, hss]
  show ((some (breakI ws ss line)).bind _) = _
  rw [Option.bind_some, show (40000 : Nat) = 39999 + 1 from rfl]
  by_cases c : chkI ws ss line = 0
  · have R := right_of c
    have hl := R.len
    have hq := R.eq
    rw [breakI_yes c, if_pos rfl]
    simp only [partitalaw25_SystemsWhole.j0]
    by_cases h0 : ws.length = 0
    · rw [if_pos (by omega), if_pos trivial, if_pos trivial, out_end _ _ _ _ (by omega)]; rfl
    · rw [if_neg (by omega), if_neg (by simp; omega)]
      obtain ⟨o1, o2, o3⟩ := laid_out R ws.length 0 (by omega) (Nat.zero_le _)
      have hol := out_len R ws.length 0
      have hne : outI (tabI ws ss line ws.length) ws.length ws.length (0 : Nat) ≠ [] := by
        intro h
        have := o3 (by omega)
        rw [h] at this; cases this
      have hpos := List.length_pos_iff.2 hne
      exact whole_l0 R _ (by omega) hne o1 (o3 (by omega)) ((outI (tabI ws ss line ws.length) ws.length ws.length (0 : Nat)).length - 1) 0 39999 (by omega) (by omega)
  · rw [breakI_no c, if_neg c]
    simp only [partitalaw25_SystemsWhole.j0]
    rfl
end Go.Proofs.YtneaoicjbiebkaaDoor.Pure
