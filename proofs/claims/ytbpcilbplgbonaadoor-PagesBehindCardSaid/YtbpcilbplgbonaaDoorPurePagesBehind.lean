/- PagesBehind: the plain law: what is behind the first best page are the best pages of the lines behind it. No conditions. -/
import Derived.Test.YtbpcilbplgbonaaDoorKinds
import Derived.Test.YtbpcilbplgbonaaDoorQ12
import Derived.Test.YtbpcilbplgbonaaDoorPP3
namespace Go.Proofs.YtbpcilbplgbonaaDoor.Pure
open Go.RowKit Go.Proofs.YtbpcilbplgbonaaDoor.Q Go.Proofs.YtbpcilbplgbonaaDoorW.PrintWords Go.Proofs.YtbpcilbplgbonaaDoorW.PrintMore
set_option linter.unusedVariables false
theorem fewB (l : List Int) : 0 ≤ mn (l.length : Int) 101 ∧ mn (l.length : Int) 101 ≤ (l.length : Int) ∧ (l.take (mn (l.length : Int) 101).toNat).length ≤ 101 := by
  have h : 0 ≤ mn (l.length : Int) 101 ∧ mn (l.length : Int) 101 ≤ (l.length : Int) ∧ mn (l.length : Int) 101 ≤ 101 := by unfold mn; split <;> omega
  exact ⟨h.1, h.2.1, by rw [List.length_take]; omega⟩
theorem chk_noneB {hs : List Int} {page gap : Int} (L : Lns hs page gap) (F : ∀ x ∈ hs, x ≤ page) : chkP hs page gap = none := by
  have c2 : inB 1 100000 [page] = true := inB_iff.2 fun x hx => by rw [List.mem_singleton.1 hx]; exact ⟨L.page1, L.page2⟩
  have c3 : inB 0 100000 [gap] = true := inB_iff.2 fun x hx => by rw [List.mem_singleton.1 hx]; exact ⟨L.gap1, L.gap2⟩
  have c4 : inB 1 100000 hs = true := inB_iff.2 L.h
  have c5 : inB 1 page hs = true := inB_iff.2 fun x hx => ⟨(L.h x hx).1, F x hx⟩
  have := L.len
  unfold chkP
  rw [if_neg (by omega), c2, c3, c4, c5]
  simp
/-- How long one looks makes no difference. -/
theorem out_fuel {hs : List Int} {page gap : Int} (L : Lns hs page gap) (F : ∀ x ∈ hs, x ≤ page) : ∀ (d d' a : Nat), hs.length ≤ a + d → hs.length ≤ a + d' → outP hs gap (tabP hs page gap hs.length) d a = outP hs gap (tabP hs page gap hs.length) d' a
  | 0, d', a, h, _ => by rw [out_end _ _ _ _ _ (by omega), out_end _ _ _ _ _ (by omega)]
  | d + 1, 0, a, _, h => by rw [out_end _ _ _ _ _ (by omega), out_end _ _ _ _ _ (by omega)]
  | d + 1, d' + 1, a, h, h' => by
    rcases Nat.lt_or_ge a hs.length with ha | ha
    · obtain ⟨b, e1, e2, e3, -, -⟩ := tabP_to L F ha
      have l1 : outP hs gap (tabP hs page gap hs.length) (d + 1) a = pageP hs gap (tabP hs page gap hs.length) a :: outP hs gap (tabP hs page gap hs.length) d b := by
        show (if a < hs.length then _ else _) = _
        rw [if_pos ha, e1, Int.toNat_natCast]
      have l2 : outP hs gap (tabP hs page gap hs.length) (d' + 1) a = pageP hs gap (tabP hs page gap hs.length) a :: outP hs gap (tabP hs page gap hs.length) d' b := by
        show (if a < hs.length then _ else _) = _
        rw [if_pos ha, e1, Int.toNat_natCast]
      rw [l1, l2, out_fuel L F d d' b (by omega) (by omega)]
    · rw [out_end _ _ _ _ _ ha, out_end _ _ _ _ _ ha]
theorem Behind_l0 (l m : List S37) (t : Nat) (ht : t ≤ 1000) (hm : m.length ≤ 1000) (hx : ∀ x ∈ m, 0 ≤ x.f0 ∧ x.f0 ≤ 1000 ∧ 0 ≤ x.f1 ∧ x.f1 ≤ 1000) (K : Nat) (h1 : 1 ≤ l.length) (h : ∀ k, K ≤ k → partitaref26_Same.f k (m.map (shiftP t)) (l.drop 1) = some true) :
    ∀ (d i k : Nat) (x : List S37), m.length = i + d → x.length = m.length → (∀ j, j < i → x[j]? = (m.map (shiftP t))[j]?) → (∀ j, i ≤ j → x[j]? = m[j]?) → K + d + 1 ≤ k → partitalaw26_PagesBehind.l0 k true l t x i = some true := by
  intro d
  induction d with
  | zero =>
    intro i k x e hl ha hb hk
    obtain ⟨k, rfl⟩ : ∃ k', k = k' + 1 := ⟨k - 1, by omega⟩
    have hxe : x = m.map (shiftP t) := by
      apply List.ext_getElem?
      intro j
      rcases Nat.lt_or_ge j i with c | c
      · exact ha j c
      · rw [List.getElem?_eq_none (by omega), List.getElem?_eq_none (by rw [List.length_map]; omega)]
    simp only [partitalaw26_PagesBehind.l0]
    rw [if_neg (by omega), if_pos trivial, if_pos (by omega), hxe, h k (by omega)]
    rfl
  | succ d ih =>
    intro i k x e hl ha hb hk
    obtain ⟨k, rfl⟩ : ∃ k', k = k' + 1 := ⟨k - 1, by omega⟩
    have hi : i < m.length := by omega
    have hix : i < x.length := by omega
    have hxi : x[i] = m[i] := by
      have := hb i (Nat.le_refl _)
      rw [List.getElem?_eq_getElem hix, List.getElem?_eq_getElem hi] at this
      exact Option.some.inj this
    have hr := hx _ (List.getElem_mem hi)
    simp only [partitalaw26_PagesBehind.l0]
    rw [if_pos (by omega), if_pos (by omega), rd37 hix, hxi, Int.toNat_natCast, Option.bind_some, w64 (n := m[i].f0 + t) (by omega)]
    obtain ⟨y, hy⟩ : ∃ y, x.set i (⟨m[i].f0 + t, m[i].f1, m[i].f2⟩ : S37) = y := ⟨_, rfl⟩
    rw [hy]
    have hyl : i < y.length := by rw [← hy, List.length_set]; exact hix
    have hyi : y[i] = ⟨m[i].f0 + t, m[i].f1, m[i].f2⟩ := by subst hy; simp
    rw [rd37 hyl, hyi]
    dsimp only
    rw [w64 (n := m[i].f1 + t) (by omega), show wrap64 ((i : Int) + 1) = ((i + 1 : Nat) : Int) by unfold wrap64; omega]
    subst hy
    rw [List.set_set]
    refine ih (i + 1) k _ (by omega) (by rw [List.length_set]; exact hl) ?_ ?_ (by omega)
    · intro j hj
      by_cases c : j = i
      · subst c
        rw [List.getElem?_set_self hix, List.getElem?_map, List.getElem?_eq_getElem hi]; rfl
      · rw [List.getElem?_set_ne (by omega)]; exact ha j (by omega)
    · intro j hj
      rw [List.getElem?_set_ne (by omega)]; exact hb j (by omega)
theorem PagesBehind : ∀ (l0 : List Int) (a1 : Int) (a2 : Int), (l0.length * 8 ≤ 140737488351232 ∧ ∀ y ∈ l0, (Lit.int .i64 y).wf = true) → ((Lit.int .i64 a1).wf = true) → ((Lit.int .i64 a2).wf = true) → ∃ k, partitalaw26_PagesBehind.f k l0 a1 a2 = some true := by
  intro l0 page gap _ _ _
  refine ⟨400000, ?_⟩
  unfold partitalaw26_PagesBehind.f
  obtain ⟨f1, f2, f3⟩ := fewB l0
  rw [shown_ok (by omega), Option.bind_some, if_pos f1, if_pos f2, Option.bind_some]
  obtain ⟨hs, hhs⟩ : ∃ hs, l0.take (mn (l0.length : Int) 101).toNat = hs := ⟨_, rfl⟩
  rw [hhs] at f3 ⊢
  obtain ⟨K, hK⟩ : ∃ K : Nat, 400000 = K + 1 + 1 + 1 := ⟨399997, rfl⟩
  rw [hK]
  unfold pages_Break.f breakP
  rcases hc : chkP hs page gap with _ | c
  · obtain ⟨L, F⟩ := fit_of hc
    have hlen := L.len
    simp only [Option.bind_some]
    rw [if_pos trivial]
    simp only [partitalaw26_PagesBehind.j0]
    by_cases c0 : hs.length = 0
    · have : hs = [] := List.length_eq_zero_iff.1 c0
      subst this
      rfl
    · obtain ⟨d, hd⟩ : ∃ d, hs.length = d + 1 := ⟨hs.length - 1, by omega⟩
      obtain ⟨j, hj, e, -, -⟩ := out_step L F (d := d) (a := 0) (by omega)
      have hf := rest_fit L hj
      have hout : outP hs gap (tabP hs page gap hs.length) hs.length 0 = pg hs page gap 0 (0 + j + 1) :: outP hs gap (tabP hs page gap hs.length) d (0 + j + 1) := by
        rw [← e, ← hd]
      rw [hout]
      obtain ⟨t, ht⟩ : ∃ t, 0 + j + 1 = t := ⟨_, rfl⟩
      rw [ht] at hout hf ⊢
      have ht1 : 1 ≤ t := by omega
      rw [if_neg (by simp; omega), if_pos (by simp)]
      have hrd : rd_T37 (pg hs page gap 0 t :: outP hs gap (tabP hs page gap hs.length) d t) 0 = pg hs page gap 0 t := rfl
      rw [hrd]
      show (if (t : Int) < 1 then _ else _) = _
      rw [if_neg (by omega)]
      simp only [partitalaw26_PagesBehind.j1]
      have hpf : (pg hs page gap 0 t).f1 = (t : Int) := rfl
      rw [hpf, if_neg (by simp; omega), if_pos (by omega), if_pos (by omega), Int.toNat_natCast]
      have L' : Lns (hs.drop t) page gap := ⟨by rw [List.length_drop]; omega, L.page1, L.page2, L.gap1, L.gap2, fun x hx => L.h x (List.mem_of_mem_drop hx)⟩
      have F' : ∀ x ∈ hs.drop t, x ≤ page := fun x hx => F x (List.mem_of_mem_drop hx)
      unfold pages_Break.f breakP
      rw [chk_noneB L' F']
      simp only [Option.bind_some]
      rw [if_pos trivial]
      have hdrop := out_drop L F L' F' hf.1 (hs.drop t).length 0 (by omega)
      rw [Nat.add_zero, out_fuel L F (hs.drop t).length d t (by rw [List.length_drop]; omega) (by omega)] at hdrop
      obtain ⟨m, hm⟩ : ∃ m, outP (hs.drop t) gap (tabP (hs.drop t) page gap (hs.drop t).length) (hs.drop t).length 0 = m := ⟨_, rfl⟩
      have hmt := out_tops L' F' (hs.drop t).length 0 (Nat.zero_le _)
      have hml := (costL_out L' F' (hs.drop t).length 0 (by omega) (by omega)).2
      rw [hm] at hdrop hmt hml ⊢
      rw [List.length_drop] at hml
      have htl := out_tops L F d t hf.1
      rw [← hdrop] at htl ⊢
      simp only [partitalaw26_PagesBehind.j2]
      rw [if_neg (by rw [List.length_cons, List.length_map]; simp; rw [w64 (by omega)])]
      refine Behind_l0 _ m t (by omega) (by omega) (fun x hx => (hmt x hx).2) 300000 (by simp) ?_ m.length 0 K m (by omega) rfl (fun j h => absurd h (by omega)) (fun j _ => rfl) (by omega)
      intro k hk
      rw [List.drop_one, List.tail_cons]
      exact Same_refl _ (by rw [List.length_map]; omega) (fun x hx => (htl x hx).1) k hk
  · have hc2 := chkP_some hc
    simp only [Option.bind_some]
    rw [if_neg (by omega)]
    simp only [partitalaw26_PagesBehind.j0]
    rw [if_pos trivial, if_pos trivial, if_neg (by omega)]
end Go.Proofs.YtbpcilbplgbonaaDoor.Pure
