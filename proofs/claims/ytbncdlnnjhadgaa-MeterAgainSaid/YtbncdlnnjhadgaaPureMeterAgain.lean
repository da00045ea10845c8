/- MeterAgain: the plain law. No conditions. -/
import Derived.Test.YtbncdlnnjhadgaaMP5
import Derived.Test.YtbncdlnnjhadgaaQ15
namespace Go.Proofs.Ytbncdlnnjhadgaa.Pure
open Go.RowKit Go.Proofs.Ytbncdlnnjhadgaa.Q Go.Proofs.YtbncdlnnjhadgaaW.PrintWords Go.Proofs.YtbncdlnnjhadgaaW.PrintMore
set_option linter.unusedVariables false
set_option linter.unusedSimpArgs false
theorem again_l0 {n d : Int} {G : List Int} (h : GM n d G) {D wx wy : Int} (h1 : 1 ≤ D) (h2 : D ≤ 12) (hw : At (d * D) (n * D) wx wy) (L : List (Int × Int)) (hL : L.length ≤ 1000) : ∀ (ps : List Int) (L1 L2 : List (Int × Int)) (k i : Nat) (p u v : Int), L = L1 ++ L2 → i = L1.length → AtP (d * D) L2 (pcs p ps) → okP (BI n d G D) p ps → At (d * D) p u v → 0 ≤ p → lastP p ps = n * D → 2 * ps.length + 50 ≤ k →
    partitalaw05_MeterAgain.l0 k true (rowsP L) i n d G wx wy u v = some true
  | [], L1, L2, k, i, p, u, v, hLL, hi, hat, hok, hp, h0, hl, hk => by
    obtain ⟨k, rfl⟩ : ∃ j, k = j + 1 := ⟨k - 1, by omega⟩
    have hd := h.d64
    have hN := nd_bd hd.1 hd.2 h1 h2
    have e2 : L2 = [] := by
      have := hat.len
      rw [pcs_len] at this
      exact List.eq_nil_of_length_eq_zero this
    subst e2
    have hpe : p = n * D := hl
    subst hpe
    obtain ⟨rfl, rfl⟩ := at_uniq (by omega) hp hw
    rw [partitalaw05_MeterAgain.l0, rows_len, if_neg (by rw [hLL, hi]; simp), if_pos rfl]
    simp
  | q :: ps, L1, L2, k, i, p, u, v, hLL, hi, hat, hok, hp, h0, hl, hk => by
    obtain ⟨k, rfl⟩ : ∃ j, k = j + 2 := ⟨k - 2, by omega⟩
    have hd := h.d64
    have hN := nd_bd hd.1 hd.2 h1 h2
    have hnD := nD_bd h.n1 h.n2 h1 h2
    cases L2 with
    | nil => exact hat.elim
    | cons x L2 =>
      obtain ⟨hx, hrest⟩ := hat
      have hle := (okP_le hok).2 q (by simp)
      rw [hl] at hle
      have hxi : L[i]? = some x := by rw [hLL, hi]; simp
      have hil : i < L.length := by rw [hLL, hi]; simp
      have hrd := rows_get hxi
      obtain ⟨L', hc, hc2⟩ := cut_f h h1 h2 hp hx h0 (by omega) (by omega) (by omega) (k := k + 1) (by omega)
      rw [cut_one (by rw [show p + (q - p) = q by omega]; exact hok.2.1)] at hc2
      obtain ⟨z, rfl⟩ : ∃ z, L' = [z] := by
        have := hc2.len
        match L', this with
        | [z], _ => exact ⟨z, rfl⟩
      have hz := hc2.1
      rw [show p + (q - p) - p = q - p by omega] at hz
      obtain ⟨z1, z2⟩ := at_uniq (by omega) hz hx
      obtain ⟨a1, a2, ha, haa⟩ := at_add (by omega) (by omega) hp hx (by omega) (by omega)
      rw [show p + (q - p) = q by omega] at haa
      rw [partitalaw05_MeterAgain.l0, rows_len, if_pos (by omega), if_pos (by omega), hrd]
      simp only
      rw [hc]
      simp only [Option.bind_some, if_true, rows_len, List.length_singleton, Int.ofNat_one]
      have hz0 : rd_T26 (rowsP [z]) 0 = ⟨x.1, x.2⟩ := by
        have := rows_get (L := [z]) (i := 0) (q := z) rfl
        rw [show ((0 : Nat) : Int) = 0 from rfl] at this
        rw [this, z1, z2]
      rw [if_pos (by decide), hz0]
      simp only [beq_self_eq_true, Bool.not_true, Bool.or_self]
      rw [partitalaw05_MeterAgain.j3, if_neg (by decide), if_pos (by omega), rows_len, if_pos (by omega), hrd]
      simp only
      rw [ha]
      simp only [Option.bind_some, if_true]
      rw [wrap64_id (n := (i : Int) + 1) (by unfold i64; omega)]
      exact again_l0 h h1 h2 hw L hL ps (L1 ++ [x]) L2 k (i + 1) q a1 a2 (by rw [hLL]; simp) (by rw [hi]; simp) hrest hok.2.2 haa (by omega) hl (by simp at hk; omega)
theorem mid_whole {n d : Int} {l : List Int} (h : GM n d l) : (cutI (BI n d l 1) 0 n).length = (beatsP n d l).length := by
  obtain ⟨t, ht⟩ := BI_zero h 1
  have hup := BI_up h (D := 1) (by omega)
  rw [(beats_at h 1).len]
  unfold cutI
  rw [pcs_len, List.length_append]
  have e : midI (BI n d l 1) 0 n = t := by
    unfold midI
    rw [ht, List.filter_cons, decide_eq_false (show ¬ (0 : Int) < 0 by omega), Bool.false_and, if_neg (by decide), List.filter_eq_self]
    intro a ha
    rw [ht] at hup
    have h1 := (List.pairwise_cons.1 hup).1 a ha
    have h2 := (BI_lt h (by omega) (show a ∈ BI n d l 1 by rw [ht]; simp [ha])).2.1
    rw [decide_eq_true h1, decide_eq_true (by omega)]; rfl
  rw [e, ht]; simp
theorem MeterAgain : ∀ (x0 : S24) (a1 : Bool) (a2 : Int) (a3 : Int), (wf24 x0) → ((Lit.int .i64 a2).wf = true) → ((Lit.int .i64 a3).wf = true) → ∃ k, partitalaw05_MeterAgain.f k x0.f0 x0.f1 x0.f2 a1 a2 a3 = some true := by
  intro x0 a1 a2 a3 ⟨w0, w1, w2, w3⟩ wa wb
  obtain ⟨K, hK⟩ : ∃ K : Nat, 2000 ≤ K := ⟨2000, Nat.le_refl _⟩
  obtain ⟨n, d, G, hm, gm, _, _⟩ := meter_f (i64_of w0) (i64_of w1) (fun y hy => i64_of (w3 y hy)) (by omega) a1 (k := K + 2) (by omega)
  have hd := gm.d64
  obtain ⟨lx, ly, hL, hLa⟩ := len_at gm (k := K + 2) (by omega)
  have hn1 := gm.n1
  have hn2 := gm.n2
  obtain ⟨L0, hc0, hc0a⟩ := cut_f gm (D := 1) (s := 0) (t := n) (x := 0) (y := 1) (p := lx) (q := ly) (by omega) (by omega) at_zero (by have := hLa.more 1; rwa [Int.mul_one n] at this) (by omega) (by omega) (by omega) (by omega) (k := K + 2) (by omega)
  have hlen : (rowsP L0).length = (beatsP n d G).length := by
    rw [rows_len, hc0a.len, Int.zero_add, mid_whole gm]
  obtain ⟨D, t, x, y, hp, _, h1, h2, t0, t1, hat⟩ := place_f gm (i64_of wa) (i64_of wb) (k := K + 1) (by omega)
  have hN := nd_bd hd.1 hd.2 h1 h2
  have hnD := nD_bd hn1 hn2 h1 h2
  have hW := hLa.more D
  obtain ⟨s1, s2, hs, hsa⟩ := at_sub (by omega) (by omega) hW hat (by omega) (by omega)
  obtain ⟨L, hc, hca⟩ := cut_f gm h1 h2 hat hsa t0 t1 (by omega) (by omega) (k := K + 1) (by omega)
  rw [show t + (n * D - t) = n * D by omega] at hca
  have hll : L.length ≤ 40 := by
    rw [hca.len]; unfold cutI; rw [pcs_len, List.length_append]
    have h3 : (midI (BI n d G D) t (n * D)).length ≤ (BI n d G D).length := List.length_filter_le _ _
    have h4 : (BI n d G D).length ≤ 32 := by unfold BI; rw [List.length_map, sums_len]; exact (grp_ok gm).2.2.2
    simp; omega
  refine ⟨K + 2, ?_⟩
  unfold partitalaw05_MeterAgain.f
  simp only [partitalaw05_awake.f, Option.bind_some, hm, hL]
  rw [beats_f gm (by omega)]
  simp only [Option.bind_some]
  rw [hc0]
  simp only [Option.bind_some, if_true, hlen, rows_len]
  rw [show (((beatsP n d G).length : Int) != ((beatsP n d G).length : Int)) = false by simp, partitalaw05_MeterAgain.j0, if_neg (by decide), hp]
  simp only [Option.bind_some]
  rw [hs]
  simp only [Option.bind_some]
  rw [hc]
  simp only [Option.bind_some, if_true]
  rw [show ((0 : Int) != 0) = false by simp, partitalaw05_MeterAgain.j1, if_neg (by decide)]
  exact again_l0 gm h1 h2 hW L (by omega) (midI (BI n d G D) t (n * D) ++ [n * D]) [] L K 0 t x y rfl rfl hca (mid_ok (BI_up gm h1) t1) hat t0 (lastP_snoc _ _ _) (by
    have := hca.len; unfold cutI at this; rw [pcs_len] at this; omega)
end Go.Proofs.Ytbncdlnnjhadgaa.Pure
