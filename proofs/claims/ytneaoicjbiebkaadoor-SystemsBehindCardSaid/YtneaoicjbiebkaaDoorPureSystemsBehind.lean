/- SystemsBehind: the plain law. No conditions. -/
import Derived.Test.YtneaoicjbiebkaaDoorSP4
import Derived.Test.YtneaoicjbiebkaaDoorQ11
namespace Go.Proofs.YtneaoicjbiebkaaDoor.Pure
open Go.RowKit Go.Proofs.YtneaoicjbiebkaaDoor.Q Go.Proofs.YtneaoicjbiebkaaDoorW.PrintWords Go.Proofs.YtneaoicjbiebkaaDoorW.PrintMore
set_option linter.unusedVariables false
theorem behind_l0 (L M : List S38) (x : S38) (t : Nat) (hL : L = x :: M.map (upS t)) (hM : M.length ≤ 1000) (ht : t ≤ 1000) (hb : ∀ y ∈ M, 0 ≤ y.f0 ∧ y.f0 ≤ 1000 ∧ 0 ≤ y.f1 ∧ y.f1 ≤ 1000) :
    ∀ (d i k : Nat), M.length = i + d → d + 1 ≤ k → partitalaw25_SystemsBehind.l0 k true L t M i = some true
  | 0, i, k, e, hk => by
    obtain ⟨k, rfl⟩ : ∃ k', k = k' + 1 := ⟨k - 1, by omega⟩
    simp only [partitalaw25_SystemsBehind.l0]
    rw [if_neg (by omega)]
  | d + 1, i, k, e, hk => by
    obtain ⟨k, rfl⟩ : ∃ k', k = k' + 1 := ⟨k - 1, by omega⟩
    simp only [partitalaw25_SystemsBehind.l0]
    have hi : i < M.length := by omega
    have hlen : L.length = M.length + 1 := by rw [hL, List.length_cons, List.length_map]
    have hw : wrap64 ((i : Int) + 1) = ((i + 1 : Nat) : Int) := by unfold wrap64; omega
    have hg : rd_T38 L ((i + 1 : Nat) : Int) = upS t M[i] := by
      rw [rd38_at (by omega)]
      simp only [hL, List.getElem_cons_succ, List.getElem_map]
    have hx := hb _ (List.getElem_mem hi)
    rw [if_pos (by omega), if_pos (by omega), hw, if_pos (by omega), if_pos (by omega), hg, rd38_at hi, if_pos (by unfold upS; rw [wrap64_id_ (by omega)]), if_pos (by unfold upS; rw [wrap64_id_ (by omega)]), if_pos (show M[i].f2 = (upS t M[i]).f2 from rfl)]
    exact behind_l0 L M x t hL hM ht hb d (i + 1) k (by omega) (by omega)
theorem out_places {ws ss : List Int} {line : Int} (R : Right ws ss line) : ∀ (d a : Nat), a ≤ ws.length → ∀ y ∈ outI (tabI ws ss line ws.length) ws.length d a, 0 ≤ y.f0 ∧ y.f0 ≤ 1000 ∧ 0 ≤ y.f1 ∧ y.f1 ≤ 1000
  | 0, a, _, y, hy => by cases hy
  | d + 1, a, ha, y, hy => by
    have := R.len
    rcases Nat.lt_or_ge a ws.length with h | h
    · obtain ⟨j, hj, e, -⟩ := out_step R (d := d) h
      have hM := (mFrom_spec ws ss line a).1
      rw [e] at hy
      rcases List.mem_cons.1 hy with rfl | hy
      · dsimp only; omega
      · exact out_places R d (a + j + 1) (by omega) y hy
    · rw [out_end _ _ _ _ h] at hy; cases hy
theorem SystemsBehind : ∀ (l0 : List Int) (l1 : List Int) (a2 : Int), (l0.length * 8 ≤ 140737488351232 ∧ ∀ y ∈ l0, (Lit.int .i64 y).wf = true) → (l1.length * 8 ≤ 140737488351232 ∧ ∀ y ∈ l1, (Lit.int .i64 y).wf = true) → ((Lit.int .i64 a2).wf = true) → ∃ k, partitalaw25_SystemsBehind.f k l0 l1 a2 = some true := by
  intro l0 l1 line _ _ _
  refine ⟨4000, ?_⟩
  unfold partitalaw25_SystemsBehind.f
  rw [shown_ok (by omega), Option.bind_some, few_if _ 101 (by omega), Option.bind_some, few_if _ 101 (by omega), Option.bind_some]
  obtain ⟨ws, hws⟩ : ∃ ws, l0.take ((mn (l0.length : Int) 101) : Int).toNat = ws := ⟨_, rfl⟩
  obtain ⟨ss, hss⟩ : ∃ ss, l1.take ((mn (l1.length : Int) 101) : Int).toNat = ss := ⟨_, rfl⟩
  have hn : ws.length ≤ 101 := by rw [← hws]; exact few_len l0 101
  rw [hws, hss]
  show ((some (breakI ws ss line)).bind _) = _
  rw [Option.bind_some, show (4000 : Nat) = 3999 + 1 from rfl]
  by_cases c : chkI ws ss line = 0
  · have R := right_of c
    rw [breakI_yes c, if_pos rfl]
    simp only [partitalaw25_SystemsBehind.j0]
    by_cases h0 : ws.length = 0
    · rw [out_end _ _ _ _ (by omega), if_pos (by rfl), if_pos trivial]
      simp [h0]
    obtain ⟨n, hN⟩ : ∃ n, ws.length = n + 1 := ⟨ws.length - 1, by omega⟩
    obtain ⟨j, hj, e, -⟩ := out_step R (a := 0) (d := n) (by omega)
    have hM := (mFrom_spec ws ss line 0).1
    have hl := R.len
    have hq := R.eq
    obtain ⟨t, ht⟩ : ∃ t, 0 + j + 1 = t := ⟨_, rfl⟩
    rw [ht] at e
    have htn : t ≤ ws.length := by omega
    have hd := out_drop R htn n 0
    rw [Nat.zero_add] at hd
    have R' := right_drop R t
    have hl' : (ws.drop t).length = ws.length - t := List.length_drop
    obtain ⟨M, hMd⟩ : ∃ M, outI (tabI (ws.drop t) (ss.drop t) line (ws.drop t).length) (ws.drop t).length (ws.drop t).length (0 : Nat) = M := ⟨_, rfl⟩
    have hf : outI (tabI (ws.drop t) (ss.drop t) line (ws.drop t).length) (ws.drop t).length n (0 : Nat) = M := by rw [← hMd]; exact out_fuel R' _ _ 0 (by omega) (by omega)
    rw [hf] at hd
    rw [hd] at e
    obtain ⟨L, hL⟩ : ∃ L, outI (tabI ws ss line ws.length) ws.length ws.length (0 : Nat) = L := ⟨_, rfl⟩
    have hLe : L = ⟨((0 : Nat) : Int), (t : Int), cst ws ss line 0 t⟩ :: M.map (upS t) := by rw [← hL, ← e, ← hN]
    rw [hL]
    have hlen : L.length = M.length + 1 := by rw [hLe, List.length_cons, List.length_map]
    have hMl : M.length ≤ (ws.drop t).length := by rw [← hMd]; have := out_len R' (ws.drop t).length 0; omega
    have h00 : rd_T38 L 0 = ⟨((0 : Nat) : Int), (t : Int), cst ws ss line 0 t⟩ := by rw [hLe]; rfl
    rw [if_neg (by simp; intro e; rw [e] at hlen; simp at hlen), if_pos (show (0 : Int) < (L.length : Int) by omega), h00, if_neg (show ¬ (t : Int) < 1 by omega), if_neg (show ¬ (t : Int) > (ws.length : Int) by omega)]
    rw [show (3999 : Nat) = 3997 + 1 + 1 from rfl]
    simp only [partitalaw25_SystemsBehind.j1, partitalaw25_SystemsBehind.j2]
    rw [if_neg (by simp; omega), if_pos (show (0 : Int) ≤ (t : Int) by omega), if_pos (show (t : Int) ≤ (ws.length : Int) by omega), if_pos (show (t : Int) ≤ (ss.length : Int) by omega)]
    show ((some (breakI _ _ _)).bind _) = _
    rw [show ((t : Int)).toNat = t from Int.toNat_natCast _, Option.bind_some, breakI_yes (chk_of R'), hMd, if_pos rfl]
    dsimp only
    have hw1 : wrap64 ((L.length : Int) - 1) = (M.length : Int) := by rw [wrap64_id_ (n := (L.length : Int) - 1) (by omega)]; omega
    rw [hw1, if_neg (by simp)]
    exact behind_l0 L M _ t hLe (by omega) (by omega) (fun y hy => out_places R' _ 0 (Nat.zero_le _) y (by rw [← hMd] at hy; exact hy)) M.length 0 3997 (by omega) (by omega)
  · rw [breakI_no c, if_neg c]
    simp only [partitalaw25_SystemsBehind.j0]
    rw [if_pos trivial, if_pos trivial, if_neg c]
end Go.Proofs.YtneaoicjbiebkaaDoor.Pure
