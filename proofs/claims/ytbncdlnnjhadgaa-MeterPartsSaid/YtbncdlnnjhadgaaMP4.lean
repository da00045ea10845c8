/- Plain facts: beats rise; between the points of a cut lies no beat. No conditions. -/
import Derived.Test.YtbncdlnnjhadgaaMP3
namespace Go.Proofs.Ytbncdlnnjhadgaa.Q
open Go.RowKit Go.Proofs.YtbncdlnnjhadgaaW.PrintWords Go.Proofs.YtbncdlnnjhadgaaW.PrintMore
set_option linter.unusedVariables false
set_option linter.unusedSimpArgs false
theorem sums_len (G : List Int) : (sums G).length = G.length := by simp [sums]
theorem sums_get {G : List Int} {j : Nat} (h : j < G.length) : (sums G)[j]? = some (G.take j).sum := by
  unfold sums
  rw [List.getElem?_map, List.getElem?_range h]; rfl
theorem sums_step {G : List Int} (hp : ∀ g ∈ G, 1 ≤ g ∧ g ≤ 32) {i j : Nat} (hij : i < j) (hj : j ≤ G.length) : (G.take i).sum < (G.take j).sum := by
  induction j with
  | zero => omega
  | succ j ih =>
    rw [sum_take (by omega)]
    have hm := hp (rd G j) (rd_mem (by omega) (by omega))
    by_cases e : i = j
    · subst e; omega
    · have := ih (by omega) (by omega); omega
theorem sums_up {G : List Int} (hp : ∀ g ∈ G, 1 ≤ g ∧ g ≤ 32) : (sums G).Pairwise (· < ·) := by
  rw [List.pairwise_iff_getElem]
  intro i j hi hj hij
  rw [sums_len] at hi hj
  have e1 := sums_get hi
  have e2 := sums_get hj
  rw [List.getElem?_eq_getElem (by rw [sums_len]; exact hi)] at e1
  rw [List.getElem?_eq_getElem (by rw [sums_len]; exact hj)] at e2
  rw [Option.some.inj e1, Option.some.inj e2]
  exact sums_step hp hij (by omega)
theorem BI_up {n d : Int} {l : List Int} (h : GM n d l) {D : Int} (h1 : 1 ≤ D) : (BI n d l D).Pairwise (· < ·) := by
  obtain ⟨g1, g2, g3, g4⟩ := grp_ok h
  unfold BI
  rw [List.pairwise_map]
  exact (sums_up g2).imp fun hab => Int.mul_lt_mul_of_pos_right hab (by omega)
theorem sums_zero {G : List Int} (h : 1 ≤ G.length) : ∃ t, sums G = 0 :: t := by
  have := sums_get (G := G) (j := 0) (by omega)
  cases hs : sums G with
  | nil => rw [hs] at this; simp at this
  | cons a t => rw [hs] at this; simp at this; exact ⟨t, by rw [this]⟩
theorem BI_zero {n d : Int} {l : List Int} (h : GM n d l) (D : Int) : ∃ t, BI n d l D = 0 :: t := by
  obtain ⟨g1, g2, g3, g4⟩ := grp_ok h
  obtain ⟨t, ht⟩ := sums_zero g3
  exact ⟨t.map (· * D), by unfold BI; rw [ht]; simp⟩
theorem BI_lt {n d : Int} {l : List Int} (h : GM n d l) {D t : Int} (h1 : 1 ≤ D) (ht : t ∈ BI n d l D) : 0 ≤ t ∧ t < n * D ∧ t % D = 0 := by
  obtain ⟨g1, g2, g3, g4⟩ := grp_ok h
  unfold BI sums at ht
  rw [List.map_map, List.mem_map] at ht
  obtain ⟨j, hj, rfl⟩ := ht
  rw [List.mem_range] at hj
  have hb := sums_bd g2 j
  have hlt := sums_step g2 hj (Nat.le_refl _)
  rw [List.take_length, g1] at hlt
  exact ⟨Int.mul_nonneg hb.1 (by omega), Int.mul_lt_mul_of_pos_right hlt (by omega), Int.mul_emod_left _ _⟩
/-- Points rise, from a place on, and no beat lies between two of them. -/
def okP (B : List Int) : Int → List Int → Prop
  | _, [] => True
  | s, p :: ps => s < p ∧ (∀ b ∈ B, ¬ (s < b ∧ b < p)) ∧ okP B p ps
theorem okP_cons {B : List Int} {c : Int} : ∀ {ps : List Int} {s : Int}, okP B s ps → c ≤ s → okP (c :: B) s ps
  | [], _, _, _ => trivial
  | p :: ps, s, h, hc => ⟨h.1, fun b hb => by
      rcases List.mem_cons.1 hb with rfl | hb
      · omega
      · exact h.2.1 b hb, okP_cons h.2.2 (by have := h.1; omega)⟩
theorem filter_none {B : List Int} {f : Int → Bool} (h : ∀ b ∈ B, f b = false) : B.filter f = [] := by
  rw [List.filter_eq_nil_iff]
  intro b hb; rw [h b hb]; simp
theorem mid_ok : ∀ {B : List Int} {s e : Int}, B.Pairwise (· < ·) → s < e → okP B s (midI B s e ++ [e])
  | [], s, e, _, h => ⟨h, by simp, trivial⟩
  | b :: B, s, e, hB, h => by
    have hb := (List.pairwise_cons.1 hB).1
    have ht := (List.pairwise_cons.1 hB).2
    unfold midI
    rw [List.filter_cons]
    by_cases c1 : b ≤ s
    · rw [decide_eq_false (show ¬ s < b by omega), Bool.false_and, if_neg (by decide)]
      exact okP_cons (mid_ok ht h) c1
    by_cases c2 : b < e
    · rw [decide_eq_true (show s < b by omega), decide_eq_true c2, Bool.and_self, if_pos rfl]
      have e1 : B.filter (fun x => decide (s < x) && decide (x < e)) = midI B b e := by
        unfold midI
        refine List.filter_congr fun x hx => ?_
        have := hb x hx
        rw [decide_eq_true (show s < x by omega), decide_eq_true (show b < x by omega)]
      rw [e1]
      exact ⟨by omega, fun x hx => by
        rcases List.mem_cons.1 hx with rfl | hx
        · omega
        · have := hb x hx; omega, okP_cons (mid_ok ht c2) (Int.le_refl _)⟩
    · rw [decide_eq_false c2, Bool.and_false, if_neg (by decide), filter_none (fun x hx => by have := hb x hx; rw [decide_eq_false (show ¬ x < e by omega), Bool.and_false])]
      exact ⟨h, fun x hx => by
        rcases List.mem_cons.1 hx with rfl | hx
        · omega
        · have := hb x hx; omega, trivial⟩
theorem mid_nil {B : List Int} {s e : Int} (h : ∀ b ∈ B, ¬ (s < b ∧ b < e)) : midI B s e = [] := by
  refine filter_none fun b hb => ?_
  have := h b hb
  by_cases c : s < b
  · rw [decide_eq_false (show ¬ b < e by omega), Bool.and_false]
  · rw [decide_eq_false c, Bool.false_and]
theorem cut_one {B : List Int} {s e : Int} (h : ∀ b ∈ B, ¬ (s < b ∧ b < e)) : cutI B s e = [e - s] := by
  unfold cutI
  rw [mid_nil h]; rfl
end Go.Proofs.Ytbncdlnnjhadgaa.Q
