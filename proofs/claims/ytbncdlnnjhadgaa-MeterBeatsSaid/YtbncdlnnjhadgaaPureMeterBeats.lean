/- MeterBeats: the plain law. No conditions. -/
import Derived.Test.YtbncdlnnjhadgaaMP5
import Derived.Test.YtbncdlnnjhadgaaQ18
namespace Go.Proofs.Ytbncdlnnjhadgaa.Pure
open Go.RowKit Go.Proofs.Ytbncdlnnjhadgaa.Q Go.Proofs.YtbncdlnnjhadgaaW.PrintWords Go.Proofs.YtbncdlnnjhadgaaW.PrintMore
set_option linter.unusedVariables false
set_option linter.unusedSimpArgs false
/-- So many parts, times the parts of a whole, is that number. -/
theorem mul_whole {d g a b : Int} (hd : 1 ≤ d) (hd2 : d ≤ 64) (hg : g.natAbs ≤ 100000) (ha : At d g a b) : ratio_Mul.f a b d 1 = some (g, 1, 0) := by
  have e := ha.2
  have h1 := ha.den (by omega)
  have h2 := ha.num (by omega)
  have b1 := mul_bd (a := a) (b := d) (A := 100000) (B := 64) (by omega) (by omega)
  have hR : Rt d 1 := ⟨by omega, by omega, by omega, by omega, by rw [Int.gcd_one_right]⟩
  have hRg : Rt g 1 := ⟨by omega, by omega, by omega, by omega, by rw [Int.gcd_one_right]⟩
  obtain ⟨n, e1, h, hr, he⟩ := ofQ_ok (a := a * d) (b := b * 1) (by omega) (by omega) (by omega)
  have key : n * 1 = g * e1 := by
    have : n * b = (g * e1) * b := by
      rw [Int.mul_one] at he
      rw [he, e]; ac_rfl
    rw [Int.mul_one]
    exact Int.eq_of_mul_eq_mul_right (by omega) this
  obtain ⟨rfl, rfl⟩ := rt_uniq hr hRg key
  unfold ratio_Mul.f doI
  rw [ha.1.right, hR.right, Bool.and_self, if_pos rfl, wrap64_id (n := a * d) (by unfold i64; omega), wrap64_id (n := b * 1) (by unfold i64; omega), ratioOf (by unfold i64; omega) (by unfold i64; omega), h]
theorem beats_get {n d : Int} {G : List Int} (h : GM n d G) {i : Nat} (hi : i < (grp n d G).length) : ∃ q, (beatsP n d G)[i]? = some q ∧ At d ((grp n d G).take i).sum q.1 q.2 := by
  obtain ⟨g1, g2, g3, g4⟩ := grp_ok h
  have hd := h.d64
  have hn := h.n2
  have := sums_bd g2 i
  have hb : ((List.take i (grp n d G)).sum).natAbs ≤ 1000000 := by omega
  refine ⟨ptB d ((grp n d G).take i).sum, ?_, ptB_at hd.1 hd.2 hb⟩
  unfold beatsP uptoB
  rw [List.getElem?_map, List.getElem?_range hi]; rfl
theorem grp_of {n d : Int} {G : List Int} (h : GM n d G) : (0 < G.length → grp n d G = G) ∧ (G = [] → ∀ g ∈ grp n d G, g = 1 ∨ (g = 3 ∧ n % 3 = 0 ∧ 6 ≤ n ∧ 8 ≤ d)) := by
  unfold grp
  refine ⟨fun h0 => by rw [if_pos h0], fun h0 g hg => ?_⟩
  rw [if_neg (by rw [h0]; simp)] at hg
  split at hg
  · rename_i hc
    exact .inr ⟨(List.mem_replicate.1 hg).2, hc.2.1, by omega, hc.2.2⟩
  · exact .inl (List.mem_replicate.1 hg).2
theorem beats_l0 {n d lx ly : Int} {G : List Int} (h : GM n d G) (gr : Bool) (hg : gr = true → 0 < G.length) (hg2 : gr = false → G = []) (hl : At d n lx ly) : ∀ (m k i : Nat), i + m = (grp n d G).length → 4 * m + 1 ≤ k →
    partitalaw05_MeterBeats.l0 k gr true (rowsP (beatsP n d G)) ((grp n d G).take i).sum i n d G lx ly = some true := by
  obtain ⟨g1, g2, g3, g4⟩ := grp_ok h
  have hd := h.d64
  have hn1 := h.n1
  have hn := h.n2
  have hbl : (rowsP (beatsP n d G)).length = (grp n d G).length := by rw [rows_len]; unfold beatsP; exact uptoB_len _ _ _
  intro m
  induction m with
  | zero =>
    intro k i hi hk
    obtain ⟨k, rfl⟩ : ∃ j, k = j + 1 := ⟨k - 1, by omega⟩
    rw [partitalaw05_MeterBeats.l0, if_neg (by omega), if_pos rfl, show (grp n d G).take i = grp n d G from List.take_of_length_le (by omega), g1, if_pos rfl]
    cases gr with
    | false => simp
    | true => rw [if_pos rfl, hbl, (grp_of h).1 (hg rfl)]; simp
  | succ m ih =>
    intro k i hi hk
    obtain ⟨k, rfl⟩ : ∃ j, k = j + 4 := ⟨k - 4, by omega⟩
    have hil : i < (grp n d G).length := by omega
    have hmem := rd_mem (l := grp n d G) (i := (i : Int)) (by omega) (by omega)
    have hgi := g2 _ hmem
    have hst := sum_take hil
    have sb := sums_bd g2 i
    have sb1 := sums_bd g2 (i + 1)
    obtain ⟨q, hq, hqa⟩ := beats_get h hil
    -- the next beat, or the bar's end
    obtain ⟨u, v, hnext, hna⟩ : ∃ u v, partitalaw05_MeterBeats.l0 (k + 4) gr true (rowsP (beatsP n d G)) ((grp n d G).take i).sum i n d G lx ly = partitalaw05_MeterBeats.j2 (k + 3) gr true (rowsP (beatsP n d G)) ((grp n d G).take i).sum i n d G lx ly u v ∧ At d ((grp n d G).take (i + 1)).sum u v := by
      rw [partitalaw05_MeterBeats.l0, if_pos (by omega), wrap64_id (n := (i : Int) + 1) (by unfold i64; omega), show ((i : Int) + 1) = ((i + 1 : Nat) : Int) by omega]
      by_cases c : i + 1 < (grp n d G).length
      · obtain ⟨q', hq', hqa'⟩ := beats_get h c
        rw [if_pos (by omega), if_pos (by omega), rows_get hq']
        exact ⟨_, _, rfl, hqa'⟩
      · rw [if_neg (by omega)]
        refine ⟨_, _, rfl, ?_⟩
        rw [show (grp n d G).take (i + 1) = grp n d G from List.take_of_length_le (by omega), g1]; exact hl
    rw [hnext]
    obtain ⟨x, y, hs, hsa⟩ := at_sub (N := d) (by omega) (by omega) hna hqa (by omega) (by omega)
    rw [hst, show ((grp n d G).take i).sum + rd (grp n d G) i - ((grp n d G).take i).sum = rd (grp n d G) i by omega] at hsa
    have hgb : (rd (grp n d G) (i : Int)).natAbs ≤ 100000 := by omega
    have hmul := mul_whole hd.1 hd.2 hgb hsa
    rw [partitalaw05_MeterBeats.j2, if_pos (by omega), if_pos (by omega), rows_get hq]
    simp only
    rw [hs]
    simp only [Option.bind_some]
    rw [hmul]
    simp only [Option.bind_some, if_true]
    rw [decide_eq_false (show ¬ rd (grp n d G) (i : Int) < 1 by omega), partitalaw05_MeterBeats.j3, if_neg (by decide)]
    have next : partitalaw05_MeterBeats.l0 k gr true (rowsP (beatsP n d G)) (wrap64 (((grp n d G).take i).sum + rd (grp n d G) i)) (wrap64 ((i : Int) + 1)) n d G lx ly = some true := by
      rw [wrap64_id (n := (i : Int) + 1) (by unfold i64; omega), wrap64_id (n := (List.take i (grp n d G)).sum + rd (grp n d G) i) (by unfold i64; omega), ← hst]
      exact ih k (i + 1) (by omega) (by omega)
    cases gr with
    | true =>
      have hGG := (grp_of h).1 (hg rfl)
      rw [if_pos rfl, if_neg (by rw [← hGG]; omega), if_pos (by omega), if_pos (by rw [← hGG]; omega), partitalaw05_MeterBeats.j4, if_neg (by rw [hGG]; simp), if_pos rfl]
      exact next
    | false =>
      rw [if_neg (by decide), partitalaw05_MeterBeats.j4, if_neg (by decide), if_neg (by decide)]
      rcases (grp_of h).2 (hg2 rfl) _ hmem with e | ⟨e, e1, e2, e3⟩
      · rw [if_pos e, e]; rw [e] at next; exact next
      · rw [if_neg (by omega), if_pos e, if_pos (by rw [Int.tmod_eq_emod_of_nonneg (by omega)]; exact e1), if_neg (by omega), if_neg (by omega), e]; rw [e] at next; exact next
theorem MeterBeats : ∀ (x0 : S24) (a1 : Bool), (wf24 x0) → ∃ k, partitalaw05_MeterBeats.f k x0.f0 x0.f1 x0.f2 a1 = some true := by
  intro x0 a1 ⟨w0, w1, w2, w3⟩
  obtain ⟨K, hK⟩ : ∃ K : Nat, 2000 ≤ K := ⟨2000, Nat.le_refl _⟩
  obtain ⟨n, d, G, hm, gm, hG0, hG1⟩ := meter_f (i64_of w0) (i64_of w1) (fun y hy => i64_of (w3 y hy)) (by omega) a1 (k := K + 1) (by omega)
  obtain ⟨lx, ly, hL, hLa⟩ := len_at gm (k := K + 1) (by omega)
  obtain ⟨g1, g2, g3, g4⟩ := grp_ok gm
  have hd := gm.d64
  have hn1 := gm.n1
  obtain ⟨q, hq, hqa⟩ := beats_get gm (i := 0) (by omega)
  rw [List.take_zero, List.sum_nil] at hqa
  obtain ⟨q1, q2⟩ := at_uniq (by omega) hqa at_zero
  have hrd := rows_get hq
  rw [show ((0 : Nat) : Int) = 0 from rfl, q1, q2] at hrd
  have hbl : (rowsP (beatsP n d G)).length = (grp n d G).length := by rw [rows_len]; unfold beatsP; exact uptoB_len _ _ _
  refine ⟨K + 1, ?_⟩
  unfold partitalaw05_MeterBeats.f
  simp only [partitalaw05_awake.f, Option.bind_some, hm, hL]
  rw [beats_f gm (by omega)]
  simp only [Option.bind_some, if_true]
  rw [if_neg (by omega), if_pos (by omega), hrd]
  simp only [beq_self_eq_true, Bool.not_true, Bool.or_self]
  rw [partitalaw05_MeterBeats.j0, if_neg (by decide)]
  have := beats_l0 gm a1 (fun h => by
    have hs := hG1 h
    cases G with
    | nil => simp at hs; omega
    | cons a t => simp) hG0 hLa (grp n d G).length K 0 (by omega) (by omega)
  rw [List.take_zero, List.sum_nil] at this
  exact this
end Go.Proofs.Ytbncdlnnjhadgaa.Pure
