/- MeterCut: the plain law. No conditions. -/
import Derived.Test.YtbncdlnnjhadgaaMP5
import Derived.Test.YtbncdlnnjhadgaaQ14
namespace Go.Proofs.Ytbncdlnnjhadgaa.Pure
open Go.RowKit Go.Proofs.Ytbncdlnnjhadgaa.Q Go.Proofs.YtbncdlnnjhadgaaW.PrintWords Go.Proofs.YtbncdlnnjhadgaaW.PrintMore
set_option linter.unusedVariables false
set_option linter.unusedSimpArgs false
theorem cut_l1 {n d D p q u v a b : Int} {G : List Int} (h : GM n d G) (h1 : 1 ≤ D) (h2 : D ≤ 12) (hp : At (d * D) p u v) (hq : At (d * D) q a b) (hb : ∀ c ∈ BI n d G D, ¬ (p < c ∧ c < q)) (X : List S26) (i : Int) (e0 e1 : Int) : ∀ (m k j : Nat), j + m = (beatsP n d G).length → m + 1 ≤ k →
    partitalaw05_MeterCut.l1 k true X (rowsP (beatsP n d G)) i (j : Int) n d G e0 e1 u v a b = partitalaw05_MeterCut.l0 (k - m - 1) true X (rowsP (beatsP n d G)) (wrap64 (i + 1)) n d G e0 e1 a b := by
  have hd := h.d64
  have hN := nd_bd hd.1 hd.2 h1 h2
  have hlen : (beatsP n d G).length ≤ 32 := by
    rw [(beats_at h D).len]; unfold BI; rw [List.length_map, sums_len]; exact (grp_ok h).2.2.2
  intro m
  induction m with
  | zero =>
    intro k j hj hk
    obtain ⟨k, rfl⟩ : ∃ j, k = j + 1 := ⟨k - 1, by omega⟩
    rw [partitalaw05_MeterCut.l1, rows_len, if_neg (by omega)]
    rfl
  | succ m ih =>
    intro k j hj hk
    obtain ⟨k, rfl⟩ : ∃ j, k = j + 1 := ⟨k - 1, by omega⟩
    have hjl : j < (beatsP n d G).length := by omega
    obtain ⟨t, ht, hat⟩ := (beats_at h D).get j hjl
    have hrd := rows_get (List.getElem?_eq_getElem hjl)
    have hmem : t ∈ BI n d G D := List.mem_of_getElem? ht
    have hno := hb t hmem
    have next := ih k (j + 1) (by omega) (by omega)
    rw [show k + 1 - (m + 1) - 1 = k - m - 1 by omega, ← next]
    rw [partitalaw05_MeterCut.l1, rows_len, if_pos (by omega), if_pos (by omega), hrd]
    simp only [ratio_Compare.f, Option.bind_some]
    rw [at_cmp (by omega) hat hp, at_cmp (by omega) hat hq]
    have ew : wrap64 ((j : Int) + 1) = ((j + 1 : Nat) : Int) := by rw [wrap64_id (n := (j : Int) + 1) (by unfold i64; omega)]; omega
    by_cases c1 : t < p
    · rw [if_pos c1, if_neg (by omega), ew]
    rw [if_neg c1]
    by_cases c2 : p < t
    · rw [if_pos c2, if_pos (by omega), if_neg (by
        by_cases c3 : t < q
        · exact absurd ⟨c2, c3⟩ hno
        · rw [if_neg c3]; split <;> omega), ew]
    · rw [if_neg c2, if_neg (by omega), ew]
theorem cut_step {n d D p q u v e0 e1 : Int} {G : List Int} (h : GM n d G) (h1 : 1 ≤ D) (h2 : D ≤ 12) (L : List (Int × Int)) (hL : L.length ≤ 1000) {i : Nat} {x : Int × Int} (hxi : L[i]? = some x) (hx : At (d * D) (q - p) x.1 x.2) (hp : At (d * D) p u v) (h0 : 0 ≤ p) (hpq : p < q) (hq : q ≤ n * D) (hb : ∀ c ∈ BI n d G D, ¬ (p < c ∧ c < q)) (hw : 0 < i → p ∈ BI n d G D) {k : Nat} (hk : 100 ≤ k) :
    ∃ a b k', k ≤ k' + 40 ∧ At (d * D) q a b ∧ partitalaw05_MeterCut.l0 k true (rowsP L) (rowsP (beatsP n d G)) (i : Int) n d G e0 e1 u v = partitalaw05_MeterCut.l0 k' true (rowsP L) (rowsP (beatsP n d G)) ((i + 1 : Nat) : Int) n d G e0 e1 a b := by
  have hd := h.d64
  have hN := nd_bd hd.1 hd.2 h1 h2
  have hnD := nD_bd h.n1 h.n2 h1 h2
  have hlen : (beatsP n d G).length ≤ 32 := by
    rw [(beats_at h D).len]; unfold BI; rw [List.length_map, sums_len]; exact (grp_ok h).2.2.2
  have hil : i < L.length := by
    rcases Nat.lt_or_ge i L.length with h | h
    · exact h
    · rw [List.getElem?_eq_none h] at hxi; cases hxi
  obtain ⟨a, b, ha, hab⟩ := at_add (by omega) (by omega) hp hx (by omega) (by omega)
  rw [show p + (q - p) = q by omega] at hab
  obtain ⟨k, rfl⟩ : ∃ j, k = j + 2 := ⟨k - 2, by omega⟩
  have hrd := rows_get hxi
  have hs := hx.sgn (by omega)
  have l1 := cut_l1 h h1 h2 hp hab hb (rowsP L) (i : Int) e0 e1 (beatsP n d G).length k 0 (by omega) (by omega)
  rw [wrap64_id (n := (i : Int) + 1) (by unfold i64; omega)] at l1
  refine ⟨a, b, k - (beatsP n d G).length - 1, by omega, hab, ?_⟩
  rw [show ((i + 1 : Nat) : Int) = (i : Int) + 1 by omega, ← l1]
  have hj2 : partitalaw05_MeterCut.j2 (k + 1) true (rowsP L) (rowsP (beatsP n d G)) (i : Int) false n d G e0 e1 u v a b = partitalaw05_MeterCut.l1 k true (rowsP L) (rowsP (beatsP n d G)) (i : Int) ((0 : Nat) : Int) n d G e0 e1 u v a b := by
    rw [partitalaw05_MeterCut.j2, if_neg (by decide)]; rfl
  rw [← hj2]
  rw [partitalaw05_MeterCut.l0, rows_len, if_pos (by omega), weight_f h h1 h2 hp h0 (by omega) (by omega)]
  simp only [Option.bind_some]
  rw [if_pos (by omega), hrd]
  simp only
  rw [ha]
  simp only [Option.bind_some, if_true]
  rw [if_neg (by omega)]
  by_cases ci : (i : Int) > 0
  · rw [if_pos ci]
    have : decide (wI (BI n d G D) D p < 2) = false := by
      rw [decide_eq_false_iff_not]
      unfold wI
      rw [if_pos (hw (by omega))]
      split <;> omega
    rw [this]
  · rw [if_neg ci]
theorem cut_l0 {n d D e e0 e1 : Int} {G : List Int} (h : GM n d G) (h1 : 1 ≤ D) (h2 : D ≤ 12) (he : At (d * D) e e0 e1) (hen : e ≤ n * D) (L : List (Int × Int)) (hL : L.length ≤ 1000) : ∀ (ms : List Int) (L1 L2 : List (Int × Int)) (k i : Nat) (p u v : Int), L = L1 ++ L2 → i = L1.length → AtP (d * D) L2 (pcs p (ms ++ [e])) → okP (BI n d G D) p (ms ++ [e]) → (∀ b ∈ ms, b ∈ BI n d G D) → (0 < i → p ∈ BI n d G D) → At (d * D) p u v → 0 ≤ p → 40 * ms.length + 150 ≤ k →
    partitalaw05_MeterCut.l0 k true (rowsP L) (rowsP (beatsP n d G)) (i : Int) n d G e0 e1 u v = some true
  | [], L1, L2, k, i, p, u, v, hLL, hi, hat, hok, hm, hw, hp, h0, hk => by
    have hd := h.d64
    have hN := nd_bd hd.1 hd.2 h1 h2
    cases L2 with
    | nil => exact hat.elim
    | cons x L2 =>
      have e2 : L2 = [] := by
        have := hat.2.len
        exact List.eq_nil_of_length_eq_zero this
      subst e2
      have hxi : L[i]? = some x := by rw [hLL, hi]; simp
      obtain ⟨a, b, k', hk', hab, eq⟩ := cut_step (e0 := e0) (e1 := e1) h h1 h2 L hL hxi hat.1 hp h0 hok.1 hen hok.2.1 hw (k := k) (by omega)
      obtain ⟨k', rfl⟩ : ∃ j, k' = j + 1 := ⟨k' - 1, by omega⟩
      obtain ⟨rfl, rfl⟩ := at_uniq (by omega) hab he
      rw [eq, partitalaw05_MeterCut.l0, rows_len, if_neg (by rw [hLL, hi]; simp), if_pos rfl]
      simp
  | q :: ms, L1, L2, k, i, p, u, v, hLL, hi, hat, hok, hm, hw, hp, h0, hk => by
    have hd := h.d64
    have hN := nd_bd hd.1 hd.2 h1 h2
    cases L2 with
    | nil => exact hat.elim
    | cons x L2 =>
      have hxi : L[i]? = some x := by rw [hLL, hi]; simp
      have hqB : q ∈ BI n d G D := hm q (by simp)
      have hqn := (BI_lt h h1 hqB).2.1
      obtain ⟨a, b, k', hk', hab, eq⟩ := cut_step (e0 := e0) (e1 := e1) h h1 h2 L hL hxi hat.1 hp h0 hok.1 (by omega) hok.2.1 hw (k := k) (by simp at hk; omega)
      have hpq := hok.1
      rw [eq]
      exact cut_l0 h h1 h2 he hen L hL ms (L1 ++ [x]) L2 k' (i + 1) q a b (by rw [hLL]; simp) (by rw [hi]; simp) hat.2 hok.2.2 (fun b hb => hm b (by simp [hb])) (fun _ => hqB) hab (by omega) (by simp at hk; omega)
theorem cut_neg {n d D s t x y p q : Int} {G : List Int} (h : GM n d G) (h1 : 1 ≤ D) (h2 : D ≤ 12) (ha : At (d * D) s x y) (hb : At (d * D) t p q) (ht : t ≤ 0) {k : Nat} (hk : 40 ≤ k) : meter_Cut.f k n d G x y p q = some ([], 2) := by
  have hl := h.len
  have hd := h.d64
  have hN := nd_bd hd.1 hd.2 h1 h2
  have hs := hb.sgn (by omega)
  unfold meter_Cut.f
  rw [right_f (by omega) (by omega), h.right]
  simp only [Option.bind_some, if_true]
  rw [within_f h h1 h2 ha]
  simp only [Option.bind_some]
  rw [hb.1.right, if_pos rfl, if_pos (hs.1.2 ht)]
  split <;> rfl
theorem MeterCut : ∀ (x0 : S24) (a1 : Bool) (a2 : Int) (a3 : Int) (a4 : Int), (wf24 x0) → ((Lit.int .i64 a2).wf = true) → ((Lit.int .i64 a3).wf = true) → ((Lit.int .i64 a4).wf = true) → ∃ k, partitalaw05_MeterCut.f k x0.f0 x0.f1 x0.f2 a1 a2 a3 a4 = some true := by
  intro x0 a1 a2 a3 a4 ⟨w0, w1, w2, w3⟩ wa wb wc
  obtain ⟨K, hK⟩ : ∃ K : Nat, 2000 ≤ K := ⟨2000, Nat.le_refl _⟩
  obtain ⟨n, d, G, hm, gm, _, _⟩ := meter_f (i64_of w0) (i64_of w1) (fun y hy => i64_of (w3 y hy)) (by omega) a1 (k := K + 1) (by omega)
  have hd := gm.d64
  have hn1 := gm.n1
  have hn2 := gm.n2
  obtain ⟨D, t, x, y, hp, hpk, h1, h2, t0, t1, hat⟩ := place_f gm (i64_of wa) (i64_of wc) (k := K + 1) (by omega)
  have hN := nd_bd hd.1 hd.2 h1 h2
  have hnD := nD_bd hn1 hn2 h1 h2
  obtain ⟨r, hr, r0, r1⟩ := pick_f (i64_of wb) (n := n * D) (by omega) (by omega)
  obtain ⟨ex, ey, hq, hea⟩ := at_new (N := d * D) (x := 1 + r) (by omega) (by omega) (by omega)
  obtain ⟨s1, s2, hs, hsa⟩ := at_sub (by omega) (by omega) hea hat (by omega) (by omega)
  have hsg := hsa.sgn (by omega)
  refine ⟨K + 1, ?_⟩
  unfold partitalaw05_MeterCut.f
  simp only [partitalaw05_awake.f, Option.bind_some, hm]
  rw [hp]
  simp only [Option.bind_some]
  rw [hpk]
  simp only [Option.bind_some]
  rw [show (1 : Int) + (D - 1) = D by omega, wrap64_id (n := D) (by unfold i64; omega), wrap64_id (n := n * D) (by unfold i64; omega), wrap64_id (n := d * D) (by unfold i64; omega), hr]
  simp only [Option.bind_some]
  rw [wrap64_id (n := 1 + r) (by unfold i64; omega), refOf (by unfold i64; omega) (by unfold i64; omega), hq]
  simp only [Option.bind_some]
  rw [hs]
  simp only [Option.bind_some, if_true]
  by_cases c : 1 + r - t ≤ 0
  · rw [cut_neg gm h1 h2 hat hsa c (by omega)]
    simp only [Option.bind_some, if_true]
    rw [if_pos (hsg.1.2 c)]
    rfl
  obtain ⟨L, hc, hca⟩ := cut_f gm h1 h2 hat hsa t0 t1 (by omega) (by omega) (k := K + 1) (by omega)
  rw [show t + (1 + r - t) = 1 + r by omega] at hca
  have hml : (midI (BI n d G D) t (1 + r)).length ≤ 32 := by
    have h3 : (midI (BI n d G D) t (1 + r)).length ≤ (BI n d G D).length := List.length_filter_le _ _
    have h4 : (BI n d G D).length ≤ 32 := by unfold BI; rw [List.length_map, sums_len]; exact (grp_ok gm).2.2.2
    omega
  have hll : L.length = (midI (BI n d G D) t (1 + r)).length + 1 := by
    rw [hca.len]; unfold cutI; rw [pcs_len, List.length_append]; rfl
  rw [hc]
  simp only [Option.bind_some]
  rw [if_neg (fun e => c (hsg.1.1 e)), beats_f gm (by omega)]
  simp only [Option.bind_some, if_true]
  rw [rows_len, show (((L.length : Nat) : Int) == 0) = false by rw [beq_eq_false_iff_ne]; omega, partitalaw05_MeterCut.j0, if_neg (by decide)]
  exact cut_l0 gm h1 h2 hea (by omega) L (by omega) (midI (BI n d G D) t (1 + r)) [] L K 0 t x y rfl rfl hca (mid_ok (BI_up gm h1) (by omega)) (fun b hb => (List.mem_filter.1 hb).1) (fun h => absurd h (by omega)) hat t0 (by omega)
end Go.Proofs.Ytbncdlnnjhadgaa.Pure
