/- MeterParts: the plain law. No conditions. -/
import Derived.Test.YtbncdlnnjhadgaaMP5
import Derived.Test.YtbncdlnnjhadgaaQ16
namespace Go.Proofs.Ytbncdlnnjhadgaa.Pure
open Go.RowKit Go.Proofs.Ytbncdlnnjhadgaa.Q Go.Proofs.YtbncdlnnjhadgaaW.PrintWords Go.Proofs.YtbncdlnnjhadgaaW.PrintMore
set_option linter.unusedVariables false
set_option linter.unusedSimpArgs false
theorem ratios_l0 {l : List S26} (hl : l.length ≤ 1000) : ∀ (m k i : Nat), i + m = l.length → m + 1 ≤ k → partitaref05_Ratios.l0 k l l (i : Int) = some true := by
  intro m
  induction m with
  | zero =>
    intro k i hi hk
    obtain ⟨k, rfl⟩ : ∃ j, k = j + 1 := ⟨k - 1, by omega⟩
    rw [partitaref05_Ratios.l0, if_neg (by omega)]
  | succ m ih =>
    intro k i hi hk
    obtain ⟨k, rfl⟩ : ∃ j, k = j + 1 := ⟨k - 1, by omega⟩
    have next := ih k (i + 1) (by omega) (by omega)
    rw [partitaref05_Ratios.l0, if_pos (by omega), if_pos (by omega), if_pos (by omega)]
    simp only [beq_self_eq_true, Bool.not_true, Bool.or_self, Bool.false_eq_true, if_false]
    rw [wrap64_id (n := (i : Int) + 1) (by unfold i64; omega)]
    exact next
theorem ratios_self {l : List S26} (hl : l.length ≤ 1000) {k : Nat} (hk : 1001 ≤ k) : partitaref05_Ratios.f k l l = some true := by
  unfold partitaref05_Ratios.f
  rw [if_pos rfl]
  exact ratios_l0 hl l.length k 0 (by omega) (by omega)
theorem pcs_app : ∀ (p : Int) (A C : List Int), pcs p (A ++ C) = pcs p A ++ pcs (lastP p A) C
  | _, [], _ => rfl
  | p, a :: A, C => by
    show (a - p) :: pcs a (A ++ C) = (a - p) :: (pcs a A ++ pcs (lastP a A) C)
    rw [pcs_app a A C]
theorem mid_hi {B : List Int} {p q r : Int} (hpq : p < q) (h : ∀ b ∈ B, q < b) : midI B p r = midI B q r ∧ midI B p q = [] := by
  refine ⟨?_, ?_⟩
  · unfold midI
    refine List.filter_congr fun b hb => ?_
    have := h b hb
    rw [decide_eq_true (show p < b by omega), decide_eq_true this]
  · refine filter_none fun b hb => ?_
    have := h b hb
    rw [decide_eq_false (show ¬ b < q by omega), Bool.and_false]
theorem mid_parts : ∀ {B : List Int} {p q r : Int}, B.Pairwise (· < ·) → p < q → q < r → midI B p r = midI B p q ++ ((if q ∈ B then [q] else []) ++ midI B q r)
  | [], p, q, r, _, _, _ => by simp [midI]
  | b :: B, p, q, r, hB, h1, h2 => by
    have hb := (List.pairwise_cons.1 hB).1
    have ih := mid_parts (List.pairwise_cons.1 hB).2 h1 h2
    by_cases c1 : b < q
    · have hm : (q ∈ b :: B) ↔ q ∈ B := by simp; omega
      have e3 : midI (b :: B) q r = midI B q r := by
        unfold midI; rw [List.filter_cons, decide_eq_false (show ¬ q < b by omega), Bool.false_and, if_neg (by decide)]
      by_cases c0 : p < b
      · have e1 : midI (b :: B) p r = b :: midI B p r := by
          unfold midI; rw [List.filter_cons, decide_eq_true c0, decide_eq_true (show b < r by omega), Bool.and_self, if_pos rfl]
        have e2 : midI (b :: B) p q = b :: midI B p q := by
          unfold midI; rw [List.filter_cons, decide_eq_true c0, decide_eq_true c1, Bool.and_self, if_pos rfl]
        rw [e1, e2, e3, ih]
        simp only [hm, List.cons_append]
      · have e1 : midI (b :: B) p r = midI B p r := by
          unfold midI; rw [List.filter_cons, decide_eq_false c0, Bool.false_and, if_neg (by decide)]
        have e2 : midI (b :: B) p q = midI B p q := by
          unfold midI; rw [List.filter_cons, decide_eq_false c0, Bool.false_and, if_neg (by decide)]
        rw [e1, e2, e3, ih]
        simp only [hm]
    · by_cases c2 : b = q
      · subst c2
        obtain ⟨m1, m2⟩ := mid_hi (r := r) h1 hb
        have e1 : midI (b :: B) p r = b :: midI B p r := by
          unfold midI; rw [List.filter_cons, decide_eq_true h1, decide_eq_true h2, Bool.and_self, if_pos rfl]
        have e2 : midI (b :: B) p b = midI B p b := by
          unfold midI; rw [List.filter_cons, decide_eq_false (show ¬ b < b by omega), Bool.and_false, if_neg (by decide)]
        have e3 : midI (b :: B) b r = midI B b r := by
          unfold midI; rw [List.filter_cons, decide_eq_false (show ¬ b < b by omega), Bool.false_and, if_neg (by decide)]
        rw [e1, e2, e3, m2, m1, if_pos (by simp)]
        rfl
      · have hh : ∀ c ∈ b :: B, q < c := by
          intro c hc
          rcases List.mem_cons.1 hc with rfl | hc
          · omega
          · have := hb c hc; omega
        obtain ⟨m1, m2⟩ := mid_hi (r := r) h1 hh
        rw [m1, m2, if_neg (fun hc => by have := hh q hc; omega)]
        rfl
theorem atp_uniq {N : Int} (hN : 0 < N) : ∀ {P P' : List (Int × Int)} {T : List Int}, AtP N P T → AtP N P' T → P = P'
  | [], [], [], _, _ => rfl
  | p :: P, p' :: P', t :: T, h, h' => by
    obtain ⟨e1, e2⟩ := at_uniq hN h.1 h'.1
    rw [atp_uniq hN h.2 h'.2, show p = p' from Prod.ext e1 e2]
  | [], p :: P, [], _, h => h.elim
  | p :: P, _, [], h, _ => h.elim
  | [], _, t :: T, h, _ => h.elim
  | p :: P, [], t :: T, _, h => h.elim
theorem atp_split {N : Int} : ∀ {T1 T2 : List Int} {L : List (Int × Int)}, AtP N L (T1 ++ T2) → ∃ L1 L2, L = L1 ++ L2 ∧ AtP N L1 T1 ∧ AtP N L2 T2
  | [], T2, L, h => ⟨[], L, rfl, trivial, h⟩
  | t :: T1, T2, [], h => h.elim
  | t :: T1, T2, p :: L, h => by
    obtain ⟨L1, L2, e, a, b⟩ := atp_split (T1 := T1) h.2
    exact ⟨p :: L1, L2, by rw [e]; rfl, ⟨h.1, a⟩, b⟩
theorem rows_app (A B : List (Int × Int)) : rowsP (A ++ B) = rowsP A ++ rowsP B := by simp [rowsP]
theorem cut_len {n d D s e : Int} {G : List Int} (gm : GM n d G) {L : List (Int × Int)} {N : Int} (h : AtP N L (cutI (BI n d G D) s e)) : 1 ≤ L.length ∧ L.length ≤ 33 := by
  have h3 : (midI (BI n d G D) s e).length ≤ (BI n d G D).length := List.length_filter_le _ _
  have h4 : (BI n d G D).length ≤ 32 := by unfold BI; rw [List.length_map, sums_len]; exact (grp_ok gm).2.2.2
  rw [h.len]; unfold cutI; rw [pcs_len, List.length_append]
  simp; omega
theorem MeterParts : ∀ (x0 : S24) (a1 : Bool) (x2 : S50) (a3 : Int), (wf24 x0) → (wf50 x2) → ((Lit.int .i64 a3).wf = true) → ∃ k, partitalaw05_MeterParts.f k x0.f0 x0.f1 x0.f2 a1 x2.f0 x2.f1 x2.f2 a3 = some true := by
  intro x0 a1 x2 a3 ⟨w0, w1, w2, w3⟩ ⟨wa, wb, wc⟩ wd
  obtain ⟨K, hK⟩ : ∃ K : Nat, 2000 ≤ K := ⟨2000, Nat.le_refl _⟩
  obtain ⟨n, d, G, hm, gm, _, _⟩ := meter_f (i64_of w0) (i64_of w1) (fun y hy => i64_of (w3 y hy)) (by omega) a1 (k := K + 3) (by omega)
  have hd := gm.d64
  have hn1 := gm.n1
  have hn2 := gm.n2
  obtain ⟨D, p, px, py, hp, hk1, h1, h2, p0, p1, hpa⟩ := place_f gm (i64_of wa) (i64_of wd) (k := K + 3) (by omega)
  obtain ⟨D', q, qx, qy, hq, hk2, _, _, q0, q1, hqa⟩ := place_f gm (i64_of wb) (i64_of wd) (k := K + 3) (by omega)
  obtain ⟨D'', r, rx, ry, hr, hk3, _, _, r0, r1, hra⟩ := place_f gm (i64_of wc) (i64_of wd) (k := K + 3) (by omega)
  obtain rfl : D = D' := by rw [hk1] at hk2; have := Option.some.inj hk2; omega
  obtain rfl : D = D'' := by rw [hk1] at hk3; have := Option.some.inj hk3; omega
  have hN := nd_bd hd.1 hd.2 h1 h2
  have hnD := nD_bd hn1 hn2 h1 h2
  refine ⟨K + 3, ?_⟩
  unfold partitalaw05_MeterParts.f
  simp only [partitalaw05_awake.f, Option.bind_some, hm]
  rw [hp]
  simp only [Option.bind_some]
  rw [hq]
  simp only [Option.bind_some]
  rw [hr]
  simp only [Option.bind_some, ratio_Compare.f]
  rw [at_cmp (by omega) hpa hqa, at_cmp (by omega) hqa hra]
  by_cases c1 : p < q
  rotate_left
  · rw [if_neg c1, if_pos (by split <;> omega), partitalaw05_MeterParts.j0, if_pos rfl]
  rw [if_pos c1, if_neg (by omega)]
  by_cases c2 : q < r
  rotate_left
  · rw [if_neg c2, decide_eq_true (by split <;> omega), partitalaw05_MeterParts.j0, if_pos rfl]
  rw [if_pos c2, decide_eq_false (by omega), partitalaw05_MeterParts.j0, if_neg (by decide)]
  obtain ⟨u1, u2, hu, hua⟩ := at_sub (by omega) (by omega) hqa hpa (by omega) (by omega)
  obtain ⟨v1, v2, hv, hva⟩ := at_sub (by omega) (by omega) hra hqa (by omega) (by omega)
  obtain ⟨z1, z2, hz, hza⟩ := at_sub (by omega) (by omega) hra hpa (by omega) (by omega)
  obtain ⟨Lo, ho, hoa⟩ := cut_f gm h1 h2 hpa hua p0 p1 (by omega) (by omega) (k := K + 2) (by omega)
  obtain ⟨Lt, ht, hta⟩ := cut_f gm h1 h2 hqa hva q0 q1 (by omega) (by omega) (k := K + 2) (by omega)
  obtain ⟨La, hl, hla⟩ := cut_f gm h1 h2 hpa hza p0 p1 (by omega) (by omega) (k := K + 2) (by omega)
  rw [show p + (q - p) = q by omega] at hoa
  rw [show q + (r - q) = r by omega] at hta
  rw [show p + (r - p) = r by omega] at hla
  have ol := cut_len gm hoa
  have tl := cut_len gm hta
  have al := cut_len gm hla
  rw [hu, hv, hz]
  simp only [Option.bind_some]
  rw [ho, ht, hl]
  simp only [Option.bind_some]
  rw [weight_f gm h1 h2 hqa q0 q1 (by omega)]
  simp only [Option.bind_some, if_true]
  rw [show ((0 : Int) != 0) = false by simp, partitalaw05_MeterParts.j1, if_neg (by decide), rows_len, rows_len, if_neg (by omega), show (((Lt.length : Nat) : Int) == 0) = false by rw [beq_eq_false_iff_ne]; omega, partitalaw05_MeterParts.j2, if_neg (by decide)]
  have hmid := mid_parts (BI_up gm h1) c1 c2
  unfold cutI at hoa hta hla
  rw [hmid] at hla
  by_cases cB : q ∈ BI n d G D
  · have hw : wI (BI n d G D) D q = 2 := by unfold wI; rw [if_neg (by omega), if_pos cB]
    rw [hw, if_pos (by omega), if_pos rfl, if_pos (by rw [rows_len]; simp; omega)]
    simp only [Option.bind_some, List.nil_append]
    rw [if_pos (by rw [rows_len, rows_len]; omega)]
    rw [if_pos cB] at hla
    have e : La = Lo ++ Lt := by
      refine atp_uniq (N := d * D) (by omega) hla ?_
      have := hoa.append hta
      have e2 := pcs_app p (midI (BI n d G D) p q ++ [q]) (midI (BI n d G D) q r ++ [r])
      rw [lastP_snoc] at e2
      rw [← e2] at this
      simpa [List.append_assoc] using this
    rw [e, rows_app, ratios_self (by rw [← rows_app, rows_len, List.length_append]; omega) (by omega)]
    rfl
  · have hw : wI (BI n d G D) D q < 2 := by unfold wI; rw [if_neg (by omega), if_neg cB]; split <;> omega
    rw [if_neg (by omega)]
    rw [if_neg cB, List.nil_append] at hla
    obtain ⟨A, hA⟩ : ∃ A, A = midI (BI n d G D) p q := ⟨_, rfl⟩
    obtain ⟨c, C, hC⟩ : ∃ c C, midI (BI n d G D) q r ++ [r] = c :: C := by
      cases midI (BI n d G D) q r with
      | nil => exact ⟨_, _, rfl⟩
      | cons a t => exact ⟨_, _, rfl⟩
    rw [← hA] at hoa hla
    rw [List.append_assoc, hC, pcs_app] at hla
    rw [pcs_app] at hoa
    rw [hC] at hta
    obtain ⟨X, Z, rfl, hX, hZ⟩ := atp_split hoa
    obtain ⟨z, rfl⟩ : ∃ z, Z = [z] := by
      have := hZ.len
      match Z, this with
      | [z], _ => exact ⟨z, rfl⟩
    cases Lt with
    | nil => exact hta.elim
    | cons y Y =>
      have hz1 := hZ.1
      have hy1 := hta.1
      have hAl : 0 ≤ lastP p A ∧ lastP p A ≤ 384 := by
        rcases List.eq_nil_or_concat A with h | ⟨A', a, h⟩
        · rw [h]; exact ⟨by show 0 ≤ p; omega, by show p ≤ 384; omega⟩
        · rw [List.concat_eq_append] at h
          rw [h, lastP_snoc]
          have ha : a ∈ midI (BI n d G D) p q := by rw [← hA, h]; simp
          have := BI_lt gm h1 (List.mem_filter.1 ha).1
          omega
      have hcl : 0 ≤ c ∧ c ≤ 384 := by
        have hc : c ∈ midI (BI n d G D) q r ++ [r] := by rw [hC]; simp
        rcases List.mem_append.1 hc with hc | hc
        · have := BI_lt gm h1 (List.mem_filter.1 hc).1; omega
        · have : c = r := by simpa using hc
          omega
      obtain ⟨b1, b2, hb, hba⟩ := at_add (by omega) (by omega) hz1 hy1 (by omega) (by omega)
      rw [show q - lastP p A + (c - q) = c - lastP p A by omega] at hba
      have hlen : (((X ++ [z]).length : Nat) : Int) = (X.length : Int) + 1 := by simp
      simp only [List.length_append, List.length_singleton] at ol
      have hwr : wrap64 ((((X ++ [z]).length : Nat) : Int) - 1) = (X.length : Int) := by rw [hlen, wrap64_id (n := (X.length : Int) + 1 - 1) (by unfold i64; omega)]; omega
      have r1 := rows_get (L := X ++ [z]) (i := X.length) (q := z) (by simp)
      have r2 : rd_T26 (rowsP (y :: Y)) 0 = ⟨y.1, y.2⟩ := by
        have := rows_get (L := y :: Y) (i := 0) (q := y) rfl
        rwa [show ((0 : Nat) : Int) = 0 from rfl] at this
      simp only [rows_len, hwr]
      rw [if_pos (by omega), if_pos (by omega), if_pos (by omega), r1, r2]
      simp only
      rw [hb]
      simp only [Option.bind_some]
      rw [if_pos (by omega)]
      have tk : (rowsP (X ++ [z])).take ((X.length : Int)).toNat = rowsP X := by
        rw [rows_app, Int.toNat_natCast, List.take_left' (rows_len X)]
      have dk : (rowsP (y :: Y)).drop 1 = rowsP Y := rfl
      rw [tk, dk]
      simp only [List.nil_append, List.length_nil, Nat.zero_add]
      have hYl : Y.length ≤ 33 := by simp at tl; omega
      rw [if_pos (by rw [rows_len]; omega), if_pos (by rw [rows_len]; simp; omega)]
      simp only [if_true]
      rw [if_pos (by simp only [List.length_cons]; omega), if_pos (by rw [List.length_append, rows_len, rows_len]; simp; omega)]
      have e : La = X ++ ((b1, b2) :: Y) := by
        refine atp_uniq (N := d * D) (by omega) hla ?_
        exact hX.append (show AtP (d * D) ((b1, b2) :: Y) (pcs (lastP p A) (c :: C)) from ⟨hba, hta.2⟩)
      have e2 : rowsP La = rowsP X ++ [(⟨b1, b2⟩ : S26)] ++ rowsP Y := by rw [e, rows_app, List.append_assoc]; rfl
      rw [← e2, ratios_self (by rw [rows_len]; omega) (by omega)]
      rfl
end Go.Proofs.Ytbncdlnnjhadgaa.Pure
