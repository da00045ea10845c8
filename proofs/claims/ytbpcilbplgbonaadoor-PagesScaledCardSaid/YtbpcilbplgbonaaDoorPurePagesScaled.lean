/- PagesScaled: the plain law: lines, pages and gaps, as many times as high, are parted alike. No conditions. -/
import Derived.Test.YtbpcilbplgbonaaDoorKinds
import Derived.Test.YtbpcilbplgbonaaDoorQ14
import Derived.Test.YtbpcilbplgbonaaDoorPP3
namespace Go.Proofs.YtbpcilbplgbonaaDoor.Pure
open Go.RowKit Go.Proofs.YtbpcilbplgbonaaDoor.Q Go.Proofs.YtbpcilbplgbonaaDoorW.PrintWords Go.Proofs.YtbpcilbplgbonaaDoorW.PrintMore
set_option linter.unusedVariables false
theorem fewS (l : List Int) : 0 ≤ mn (l.length : Int) 101 ∧ mn (l.length : Int) 101 ≤ (l.length : Int) ∧ (l.take (mn (l.length : Int) 101).toNat).length ≤ 101 := by
  have h : 0 ≤ mn (l.length : Int) 101 ∧ mn (l.length : Int) 101 ≤ (l.length : Int) ∧ mn (l.length : Int) 101 ≤ 101 := by unfold mn; split <;> omega
  exact ⟨h.1, h.2.1, by rw [List.length_take]; omega⟩
theorem chk_none {hs : List Int} {page gap : Int} (L : Lns hs page gap) (F : ∀ x ∈ hs, x ≤ page) : chkP hs page gap = none := by
  have c2 : inB 1 100000 [page] = true := inB_iff.2 fun x hx => by rw [List.mem_singleton.1 hx]; exact ⟨L.page1, L.page2⟩
  have c3 : inB 0 100000 [gap] = true := inB_iff.2 fun x hx => by rw [List.mem_singleton.1 hx]; exact ⟨L.gap1, L.gap2⟩
  have c4 : inB 1 100000 hs = true := inB_iff.2 L.h
  have c5 : inB 1 page hs = true := inB_iff.2 fun x hx => ⟨(L.h x hx).1, F x hx⟩
  have := L.len
  unfold chkP
  rw [if_neg (by omega), c2, c3, c4, c5]
  simp
theorem Scaled_l1 (l m : List S37) (h : m.map (fun x => (x.f0, x.f1)) = l.map (fun x => (x.f0, x.f1))) (hl : l.length ≤ 1000) : ∀ (d i k : Nat), l.length = i + d → d + 1 ≤ k → partitalaw26_PagesScaled.l1 k true l m i = some true := by
  have hlen : m.length = l.length := by have := congrArg List.length h; simpa using this
  intro d
  induction d with
  | zero =>
    intro i k e hk
    obtain ⟨k, rfl⟩ : ∃ k', k = k' + 1 := ⟨k - 1, by omega⟩
    simp only [partitalaw26_PagesScaled.l1]
    rw [if_neg (by omega)]
  | succ d ih =>
    intro i k e hk
    obtain ⟨k, rfl⟩ : ∃ k', k = k' + 1 := ⟨k - 1, by omega⟩
    have hi : i < l.length := by omega
    have hi' : i < m.length := by omega
    have hx : (m[i].f0, m[i].f1) = (l[i].f0, l[i].f1) := by
      have := congrArg (fun z => z[i]?) h
      simp only [List.getElem?_map, List.getElem?_eq_getElem hi, List.getElem?_eq_getElem hi', Option.map_some] at this
      exact Option.some.inj this
    obtain ⟨hx1, hx2⟩ := Prod.mk.inj hx
    simp only [partitalaw26_PagesScaled.l1]
    rw [if_pos (by omega), if_pos (by omega), if_pos (by omega), rd37 hi, rd37 hi', if_pos hx1, if_pos hx2, show wrap64 ((i : Int) + 1) = ((i + 1 : Nat) : Int) by unfold wrap64; omega]
    exact ih (i + 1) k (by omega) (by omega)
theorem Scaled_l0 (hs : List Int) (page gap n : Int) (l : List S37) (hlen : hs.length ≤ 100) (hx : ∀ x ∈ hs, 0 ≤ x ∧ x ≤ 100000) (hn : 1 ≤ n ∧ n ≤ 9) (K : Nat)
    (h : ∀ k, K ≤ k → partitalaw26_PagesScaled.l0 (k + 1) hs page gap n true l (hs.map (n * ·)) (hs.length : Int) = some true) :
    ∀ (d i k : Nat), hs.length = i + d → K + d + 1 ≤ k → partitalaw26_PagesScaled.l0 k hs page gap n true l ((hs.take i).map (n * ·)) i = some true := by
  intro d
  induction d with
  | zero =>
    intro i k e hk
    obtain ⟨k, rfl⟩ : ∃ k', k = k' + 1 := ⟨k - 1, by omega⟩
    obtain rfl : i = hs.length := by omega
    rw [List.take_length]
    exact h k (by omega)
  | succ d ih =>
    intro i k e hk
    obtain ⟨k, rfl⟩ : ∃ k', k = k' + 1 := ⟨k - 1, by omega⟩
    have hi : i < hs.length := by omega
    have hxi := hx _ (List.getElem_mem hi)
    have hm : 0 ≤ n * hs[i] ∧ n * hs[i] ≤ 900000 := ⟨Int.mul_nonneg (by omega) hxi.1, Int.le_trans (Int.mul_le_mul (c := 9) (d := 100000) hn.2 hxi.2 hxi.1 (by omega)) (by omega)⟩
    simp only [partitalaw26_PagesScaled.l0]
    rw [if_pos (by omega), if_pos (by omega), if_pos (by simp; omega), rd_get hi, w64 (by omega), show wrap64 ((i : Int) + 1) = ((i + 1 : Nat) : Int) by unfold wrap64; omega]
    have := ih (i + 1) k (by omega) (by omega)
    rw [List.take_add_one, List.getElem?_eq_getElem hi, List.map_append] at this
    exact this
theorem PagesScaled : ∀ (l0 : List Int) (a1 : Int) (a2 : Int) (a3 : Int), (l0.length * 8 ≤ 140737488351232 ∧ ∀ y ∈ l0, (Lit.int .i64 y).wf = true) → ((Lit.int .i64 a1).wf = true) → ((Lit.int .i64 a2).wf = true) → ((Lit.int .i64 a3).wf = true) → ∃ k, partitalaw26_PagesScaled.f k l0 a1 a2 a3 = some true := by
  intro l0 page gap a3 _ _ _ _
  refine ⟨1000, ?_⟩
  unfold partitalaw26_PagesScaled.f
  obtain ⟨f1, f2, f3⟩ := fewS l0
  rw [shown_ok (by omega), Option.bind_some, if_pos f1, if_pos f2, Option.bind_some]
  obtain ⟨hs, hhs⟩ : ∃ hs, l0.take (mn (l0.length : Int) 101).toNat = hs := ⟨_, rfl⟩
  rw [hhs] at f3 ⊢
  obtain ⟨n, hn⟩ : ∃ n, mn (mx a3 1) 9 = n := ⟨_, rfl⟩
  have hn9 : 1 ≤ n ∧ n ≤ 9 := by rw [← hn]; unfold mn mx; repeat' split <;> omega
  rw [hn]
  unfold pages_Break.f breakP
  rcases hc : chkP hs page gap with _ | c
  · obtain ⟨L, F⟩ := fit_of hc
    have hlen := L.len
    obtain ⟨e1, e2⟩ := costL_out L F hs.length 0 (by omega) (by omega)
    have flag : ∀ k, partitalaw26_PagesScaled.j0 (k + 1) hs page gap n true (outP hs gap (tabP hs page gap hs.length) hs.length 0) true = some true := by
      intro k
      simp only [partitalaw26_PagesScaled.j0]
      rw [if_pos trivial, if_pos trivial]
      simp; omega
    simp only [Option.bind_some]
    rw [if_pos trivial, if_neg (by omega)]
    by_cases c1 : page > 100000 / n
    · rw [if_pos c1]; exact flag 999
    rw [if_neg c1]
    by_cases c2 : gap > 100000 / n
    · rw [decide_eq_true c2]; exact flag 999
    rw [decide_eq_false c2]
    have hd : n * (100000 / n) ≤ 100000 := Int.mul_ediv_self_le (by omega)
    have hp : n * page ≤ 100000 := Int.le_trans (Int.mul_le_mul_of_nonneg_left (by omega) (by omega)) hd
    have hg : n * gap ≤ 100000 := Int.le_trans (Int.mul_le_mul_of_nonneg_left (by omega) (by omega)) hd
    have hp0 : 1 ≤ n * page := by have := Int.mul_le_mul (a := 1) (b := 1) (c := n) (d := page) hn9.1 L.page1 (by omega) (by omega); omega
    have hg0 : 0 ≤ n * gap := Int.mul_nonneg (by omega) L.gap1
    have F' : ∀ x ∈ hs.map (n * ·), x ≤ n * page := by
      intro x hx
      obtain ⟨y, hy, rfl⟩ := List.mem_map.1 hx
      exact Int.mul_le_mul_of_nonneg_left (F y hy) (by omega)
    have L' : Lns (hs.map (n * ·)) (n * page) (n * gap) := ⟨by rw [List.length_map]; exact hlen, hp0, hp, hg0, hg, fun x hx => by
      have h1 := F' x hx
      obtain ⟨y, hy, rfl⟩ := List.mem_map.1 hx
      have := Int.mul_le_mul (a := 1) (b := 1) (c := n) (d := y) hn9.1 (L.h y hy).1 (by omega) (by omega)
      exact ⟨by omega, by omega⟩⟩
    have hmul := out_mul (c := n) (by omega) L F L' F' hs.length 0 (by omega)
    rw [List.length_map] at hmul
    have hlm := congrArg List.length hmul
    rw [List.length_map, List.length_map] at hlm
    show partitalaw26_PagesScaled.j0 (999 + 1) _ _ _ _ _ _ _ = _
    simp only [partitalaw26_PagesScaled.j0]
    rw [if_neg (by simp)]
    have key := Scaled_l0 hs page gap n (outP hs gap (tabP hs page gap hs.length) hs.length 0) hlen (fun x hx => by have := L.h x hx; omega) hn9 200 ?_ hs.length 0 999 (by omega) (by omega)
    · simpa using key
    intro k hk
    simp only [partitalaw26_PagesScaled.l0]
    rw [if_neg (by omega)]
    unfold pages_Break.f breakP
    rw [w64 (by omega), w64 (by omega), chk_none L' F', Option.bind_some]
    dsimp only
    rw [if_pos rfl, List.length_map, hlm]
    obtain ⟨k, rfl⟩ : ∃ k', k = k' + 1 := ⟨k - 1, by omega⟩
    simp only [partitalaw26_PagesScaled.j2]
    rw [if_neg (by simp)]
    exact Scaled_l1 (outP hs gap (tabP hs page gap hs.length) hs.length 0) _ hmul (by omega) (outP hs gap (tabP hs page gap hs.length) hs.length 0).length 0 k (by omega) (by omega)
  · have hc2 := chkP_some hc
    simp only [Option.bind_some]
    rw [if_neg (by omega)]
    show partitalaw26_PagesScaled.j0 (999 + 1) _ _ _ _ _ _ _ = _
    simp only [partitalaw26_PagesScaled.j0]
    rw [if_pos trivial, if_pos trivial]
    simp
end Go.Proofs.YtbpcilbplgbonaaDoor.Pure
