/- SystemsBest: the plain law. No conditions. -/
import Derived.Test.YtneaoicjbiebkaaDoorSP5
import Derived.Test.YtneaoicjbiebkaaDoorQ9
namespace Go.Proofs.YtneaoicjbiebkaaDoor.Pure
open Go.RowKit Go.Proofs.YtneaoicjbiebkaaDoor.Q Go.Proofs.YtneaoicjbiebkaaDoorW.PrintWords Go.Proofs.YtneaoicjbiebkaaDoorW.PrintMore
set_option linter.unusedVariables false
theorem SystemsBest : ∀ (l0 : List Int) (l1 : List Int) (a2 : Int) (l3 : List Int), (l0.length * 8 ≤ 140737488351232 ∧ ∀ y ∈ l0, (Lit.int .i64 y).wf = true) → (l1.length * 8 ≤ 140737488351232 ∧ ∀ y ∈ l1, (Lit.int .i64 y).wf = true) → ((Lit.int .i64 a2).wf = true) → (l3.length * 8 ≤ 140737488351232 ∧ ∀ y ∈ l3, (Lit.int .i64 y).wf = true) → ∃ k, partitalaw25_SystemsBest.f k l0 l1 a2 l3 = some true := by
  intro l0 l1 line l3 _ _ _ _
  refine ⟨40000, ?_⟩
  unfold partitalaw25_SystemsBest.f
  rw [shown_ok (by omega), Option.bind_some, few_if _ 101 (by omega), Option.bind_some, few_if _ 101 (by omega), Option.bind_some, few_if _ 100 (by omega), Option.bind_some]
  obtain ⟨ws, hws⟩ : ∃ ws, l0.take ((mn (l0.length : Int) 101) : Int).toNat = ws := ⟨_, rfl⟩
  obtain ⟨ss, hss⟩ : ∃ ss, l1.take ((mn (l1.length : Int) 101) : Int).toNat = ss := ⟨_, rfl⟩
  obtain ⟨es, hes⟩ : ∃ es, l3.take ((mn (l3.length : Int) 100) : Int).toNat = es := ⟨_, rfl⟩
  have he : es.length ≤ 100 := by rw [← hes]; exact few_len l3 100
  rw [hws, hss, hes]
  show ((some (breakI ws ss line)).bind _) = _
  rw [Option.bind_some, show (40000 : Nat) = 39999 + 1 from rfl]
  by_cases c : chkI ws ss line = 0
  · have R := right_of c
    have hl := R.len
    have hq := R.eq
    rw [breakI_yes c, if_pos rfl]
    simp only [partitalaw25_SystemsBest.j0]
    by_cases h0 : ws.length = 0
    · rw [if_pos (by omega), if_pos trivial, if_pos trivial, out_end _ _ _ _ (by omega)]; rfl
    · rw [if_neg (by omega), if_neg (by simp; omega), laid_f R es (by omega) (by omega), Option.bind_some, if_pos trivial]
      cases hg : laidG ws ss line 0 (es ++ [(ws.length : Int)]) with
      | none => rfl
      | some l =>
        show (if true = true then _ else _) = _
        rw [if_pos rfl]
        obtain ⟨t1, t2, t3⟩ := laid_tot R (es ++ [(ws.length : Int)]) 0 l (fun _ => by simp) (fun h => by simp at h) (Nat.zero_le _) hg
        obtain ⟨o1, o2, o3⟩ := laid_out R ws.length 0 (by omega) (Nat.zero_le _)
        obtain ⟨p1, p2, p3⟩ := laid_tot R _ 0 _ (fun _ => o3 (by omega)) (fun h => by
          exfalso
          have := o3 (by omega)
          rw [h] at this; cases this) (Nat.zero_le _) o1
        have hol := out_len R ws.length 0
        have hl1 : l.length ≤ 101 := by rw [t3, List.length_append, List.length_singleton]; omega
        rw [total_f _ (by omega) p2 (by omega), Option.bind_some]
        show (partitaref25_Total.f 39999 ([] ++ l)).bind _ = _
        rw [List.nil_append, total_f _ (by omega) t2 (by omega), Option.bind_some, o2]
        congr 1
        exact decide_eq_true t1
  · rw [breakI_no c, if_neg c]
    simp only [partitalaw25_SystemsBest.j0]
    rfl
end Go.Proofs.YtneaoicjbiebkaaDoor.Pure
