/- The document's pages are the program's: its loops. No conditions. -/
import Derived.Test.YtbpcilbplgbonaaDoorPP4
namespace Go.Proofs.YtbpcilbplgbonaaDoor.Pure
open Go.RowKit Go.Proofs.YtbpcilbplgbonaaDoor.Q Go.Proofs.YtbpcilbplgbonaaDoorW.PrintWords Go.Proofs.YtbpcilbplgbonaaDoorW.PrintMore
set_option linter.unusedVariables false
theorem rd_set (l : List Int) (i b : Nat) (v : Int) (h : i < l.length) : rd (l.set i v) (b : Int) = if b = i then v else rd l (b : Int) := by
  unfold rd
  rw [show ((b : Nat) : Int).toNat = b from Int.toNat_natCast _, List.getD_eq_getElem?_getD, List.getD_eq_getElem?_getD, List.getElem?_set]
  by_cases c : i = b
  · subst c; simp [h]
  · rw [if_neg c, if_neg (fun e => c e.symm)]
structure Inv (hs : List Int) (page gap : Int) (a : Nat) (T E : List Int) : Prop where
  lt : T.length = hs.length + 1
  le : E.length = hs.length + 1
  t : ∀ b : Nat, a ≤ b → b ≤ hs.length → rd T (b : Int) = totP hs page gap b
  e : ∀ b : Nat, a ≤ b → b < hs.length → rd E (b : Int) = (tabP hs page gap hs.length b).1
  z : ∀ b : Nat, b < a → rd E (b : Int) = 0
def bestJ (hs : List Int) (page gap : Int) (a j : Nat) : W3 := bestP hs.length (tabP hs page gap hs.length) ((List.range j).map (itP hs page gap a))
theorem bestJ_succ (hs : List Int) (page gap : Int) (a j : Nat) : bestJ hs page gap a (j + 1) = stepP hs.length (tabP hs page gap hs.length) (bestJ hs page gap a j) (itP hs page gap a j) := by
  unfold bestJ; rw [List.range_succ, List.map_append, List.map_singleton, bestP_snoc]
theorem bestJ_m (hs : List Int) (page gap : Int) {a : Nat} (ha : a < hs.length) : bestJ hs page gap a (mP hs page gap a) = tabP hs page gap hs.length a := by
  rw [tab_rec hs page gap ha]; rfl
theorem bestJ_pos {hs : List Int} {page gap : Int} {a j : Nat} (h0 : 0 < j) : (bestJ hs page gap a j).1 ≠ 0 := by
  have hne : (List.range j).map (itP hs page gap a) ≠ [] := by
    intro e
    have := congrArg List.length e
    simp at this; omega
  obtain ⟨l1, x, l2, e, hb, -, -⟩ := bestP_spec hs.length (tabP hs page gap hs.length) _ (fun x hx => by obtain ⟨i, _, rfl⟩ := List.mem_map.1 hx; show (a : Int) + i + 1 ≠ 0; omega) hne
  obtain ⟨i, hi, rfl, -, -⟩ := range_split e
  unfold bestJ
  rw [hb]
  show (a : Int) + i + 1 ≠ 0
  omega
theorem tot_small {hs : List Int} {page gap : Int} (L : Lns hs page gap) (F : ∀ x ∈ hs, x ≤ page) {b : Nat} (hb : b ≤ hs.length) : 0 ≤ totP hs page gap b ∧ totP hs page gap b ≤ 1000000000000 := by
  have := totP_range L F hb
  have := L.len
  omega
theorem stepP_at {hs : List Int} {page gap : Int} (L : Lns hs page gap) (F : ∀ x ∈ hs, x ≤ page) {a j : Nat} (hj : j < mP hs page gap a) : bestJ hs page gap a (j + 1) = if j = 0 ∨ val hs page gap a j ≤ (bestJ hs page gap a j).2.2 then (((a + 1 + j : Nat) : Int), restI hs page gap a (a + j + 1), val hs page gap a j) else bestJ hs page gap a j := by
  have hf := rest_fit L hj
  have hv := vv_itP L hj (tot_small L F hf.1)
  rw [bestJ_succ]
  unfold stepP
  have e1 : (itP hs page gap a j).1 = ((a + 1 + j : Nat) : Int) := by show (a : Int) + j + 1 = _; omega
  have e2 : wrap64 (costP hs.length (itP hs page gap a j) + (tabP hs page gap hs.length (itP hs page gap a j).1.toNat).2.2) = val hs page gap a j := hv
  rw [e2, e1]
  have e3 : (itP hs page gap a j).2 = restI hs page gap a (a + j + 1) := rfl
  rw [e3]
  by_cases c : j = 0
  · subst c
    rw [if_pos (.inl rfl), if_pos (.inl rfl)]
  · have hp := bestJ_pos (hs := hs) (page := page) (gap := gap) (a := a) (j := j) (by omega)
    by_cases c2 : val hs page gap a j ≤ (bestJ hs page gap a j).2.2
    · rw [if_pos (.inr c2), if_pos (.inr c2)]
    · rw [if_neg, if_neg]
      · rintro (h | h); exact c h; exact c2 h
      · rintro (h | h); exact hp (by rw [h]); exact c2 h
theorem ref_l2 {hs : List Int} {page gap : Int} (L : Lns hs page gap) (F : ∀ x ∈ hs, x ≤ page) {a : Nat} (ha : a < hs.length) (r : List S37 × Int) (K : Nat)
    (h : ∀ T E k, Inv hs page gap a T E → K ≤ k → partitaref26_Break.l1 k hs page gap hs.length T E ((a : Int) - 1) = some r) :
    ∀ (d j k : Nat) (T E : List Int), mP hs page gap a = j + d → K + d + 300 ≤ k → T.length = hs.length + 1 → E.length = hs.length + 1 → (∀ b : Nat, a < b → b ≤ hs.length → rd T (b : Int) = totP hs page gap b) → (∀ b : Nat, a < b → b < hs.length → rd E (b : Int) = (tabP hs page gap hs.length b).1) → (∀ b : Nat, b < a → rd E (b : Int) = 0) →
      (j ≠ 0 → rd T (a : Int) = (bestJ hs page gap a j).2.2) → rd E (a : Int) = (bestJ hs page gap a j).1 →
      partitaref26_Break.l2 k hs page gap hs.length T E a ((a + 1 + j : Nat) : Int) = some r
  | 0, j, k, T, E, e, hk, lT, lE, hT, hE, hZ, hTa, hEa => by
    obtain ⟨k, rfl⟩ : ∃ k', k = k' + 1 := ⟨k - 1, by omega⟩
    obtain ⟨m1, m2, m3⟩ := mP_spec hs page gap a
    have hp := mP_pos L F ha
    have hl := L.len
    have ej : j = mP hs page gap a := by omega
    have fin : partitaref26_Break.l1 k hs page gap hs.length T E (wrap64 ((a : Int) - 1)) = some r := by
      rw [w64 (n := (a : Int) - 1) (by omega)]
      refine h T E k ⟨lT, lE, fun b h1 h2 => ?_, fun b h1 h2 => ?_, hZ⟩ (by omega)
      · rcases Nat.lt_or_ge a b with c | c
        · exact hT b c h2
        · obtain rfl : b = a := by omega
          rw [hTa (by omega), ej, bestJ_m _ _ _ ha]; rfl
      · rcases Nat.lt_or_ge a b with c | c
        · exact hE b c h2
        · obtain rfl : b = a := by omega
          rw [hEa, ej, bestJ_m _ _ _ ha]
    simp only [partitaref26_Break.l2]
    by_cases c : ((a + 1 + j : Nat) : Int) ≤ (hs.length : Int)
    · rw [if_pos c, rest_f L a (a + 1 + j) (by omega) (by omega) k (by omega), Option.bind_some]
      have h3 := m3 (by omega)
      rw [show a + mP hs page gap a + 1 = a + 1 + j by omega] at h3
      rw [if_pos h3]
      exact fin
    · rw [if_neg c]; exact fin
  | d + 1, j, k, T, E, e, hk, lT, lE, hT, hE, hZ, hTa, hEa => by
    obtain ⟨k, rfl⟩ : ∃ k', k = k' + 1 := ⟨k - 1, by omega⟩
    have hl := L.len
    have hjm : j < mP hs page gap a := by omega
    have hf := rest_fit L hjm
    have hc := cst_range L hjm
    have hsq := sq_le hf.2.1 (show restI hs page gap a (a + j + 1) ≤ 100000 by omega)
    have hto := hT (a + 1 + j) (by omega) (by omega)
    have hts := tot_small L F (b := a + 1 + j) (by omega)
    have hst := stepP_at L F hjm
    have ej : a + 1 + j = a + j + 1 := by omega
    have keep : bestJ hs page gap a (j + 1) = (((a + 1 + j : Nat) : Int), restI hs page gap a (a + j + 1), val hs page gap a j) → ∀ v : Int, v = val hs page gap a j →
        partitaref26_Break.l2 k hs page gap hs.length (T.set a v) (E.set a ((a + 1 + j : Nat) : Int)) a ((a + 1 + (j + 1) : Nat) : Int) = some r := by
      intro eb v hv
      subst hv
      refine ref_l2 L F ha r K h d (j + 1) k _ _ (by omega) (by omega) (by rw [List.length_set]; exact lT) (by rw [List.length_set]; exact lE) (fun b h1 h2 => ?_) (fun b h1 h2 => ?_) (fun b h1 => ?_) (fun _ => ?_) ?_
      · rw [rd_set _ _ _ _ (by omega), if_neg (by omega)]; exact hT b h1 h2
      · rw [rd_set _ _ _ _ (by omega), if_neg (by omega)]; exact hE b h1 h2
      · rw [rd_set _ _ _ _ (by omega), if_neg (by omega)]; exact hZ b h1
      · rw [rd_set _ _ _ _ (by omega), if_pos rfl, eb]
      · rw [rd_set _ _ _ _ (by omega), if_pos rfl, eb]
    have stay : bestJ hs page gap a (j + 1) = bestJ hs page gap a j → j ≠ 0 → partitaref26_Break.l2 k hs page gap hs.length T E a ((a + 1 + (j + 1) : Nat) : Int) = some r := by
      intro eb hj0
      exact ref_l2 L F ha r K h d (j + 1) k T E (by omega) (by omega) lT lE hT hE hZ (fun _ => by rw [eb]; exact hTa hj0) (by rw [eb]; exact hEa)
    simp only [partitaref26_Break.l2]
    rw [if_pos (by omega), rest_f L a (a + 1 + j) (by omega) (by omega) k (by omega), Option.bind_some, ej, if_neg (by omega), ← ej, wn (by omega)]
    -- the value
    have hval : ∀ x : Int, x = cst hs page gap a (a + j + 1) → wrap64 (x + rd T ((a + 1 + j : Nat) : Int)) = val hs page gap a j := by
      intro x hx
      subst hx
      rw [hto, w64 (by omega)]
      unfold val
      rw [ej]
    have go : ∀ x : Int, x = cst hs page gap a (a + j + 1) →
        (if 0 ≤ ((a + 1 + j : Nat) : Int) then (if ((a + 1 + j : Nat) : Int) < (T.length : Int) then (if 0 ≤ (a : Int) then (if (a : Int) < (E.length : Int) then (if (rd E (a : Int)) = 0 then (if (a : Int) < (T.length : Int) then (partitaref26_Break.l2 k hs page gap hs.length (T.set (a : Int).toNat (wrap64 (x + (rd T ((a + 1 + j : Nat) : Int))))) (E.set (a : Int).toNat ((a + 1 + j : Nat) : Int)) a ((a + 1 + (j + 1) : Nat) : Int)) else (none)) else (if (a : Int) < (T.length : Int) then (if (wrap64 (x + (rd T ((a + 1 + j : Nat) : Int)))) ≤ (rd T (a : Int)) then (partitaref26_Break.l2 k hs page gap hs.length (T.set (a : Int).toNat (wrap64 (x + (rd T ((a + 1 + j : Nat) : Int))))) (E.set (a : Int).toNat ((a + 1 + j : Nat) : Int)) a ((a + 1 + (j + 1) : Nat) : Int)) else (partitaref26_Break.l2 k hs page gap hs.length T E a ((a + 1 + (j + 1) : Nat) : Int))) else (none))) else (none)) else (none)) else (none)) else (none)) = some r := by
      intro x hx
      rw [if_pos (by omega), if_pos (by omega), if_pos (by omega), if_pos (by omega), if_pos (show (a : Int) < (T.length : Int) by omega), if_pos (show (a : Int) < (T.length : Int) by omega), hval x hx, Int.toNat_natCast]
      by_cases c0 : j = 0
      · subst c0
        have hb0 : (bestJ hs page gap a 0).1 = 0 := rfl
        rw [hEa, if_pos hb0]
        exact keep (by rw [hst, if_pos (.inl rfl)]) _ rfl
      · have hp := bestJ_pos (hs := hs) (page := page) (gap := gap) (a := a) (j := j) (by omega)
        rw [hEa, if_neg hp, hTa c0]
        by_cases c1 : val hs page gap a j ≤ (bestJ hs page gap a j).2.2
        · rw [if_pos c1]
          exact keep (by rw [hst, if_pos (.inr c1)]) _ rfl
        · rw [if_neg c1]
          exact stay (by rw [hst, if_neg (by rintro (q | q); exact c0 q; exact c1 q)]) c0
    by_cases c5 : ((a + 1 + j : Nat) : Int) = (hs.length : Int)
    · rw [if_pos c5]
      exact go (0 * 0) (by unfold cst; rw [if_pos (by omega)]; rfl)
    · rw [if_neg c5]
      exact go (wrap64 (restI hs page gap a (a + 1 + j) * restI hs page gap a (a + 1 + j))) (by rw [ej]; unfold cst; rw [if_neg (by omega), w64 (by omega)])
theorem page_at {hs : List Int} {page gap : Int} {a j : Nat} (ht : tabP hs page gap hs.length a = (((a + j + 1 : Nat) : Int), restI hs page gap a (a + j + 1), val hs page gap a j)) : pageP hs gap (tabP hs page gap hs.length) a = ⟨(a : Int), ((a + j + 1 : Nat) : Int), topsI hs gap a (lrest hs (a + j + 1) (restI hs page gap a (a + j + 1))) (((a + j + 1 : Nat) : Int) - a - 1) (a + j + 1 - a)⟩ := by
  unfold pageP; rw [ht]; simp only [Int.toNat_natCast]
theorem ref_l3 {hs : List Int} {page gap : Int} (L : Lns hs page gap) (F : ∀ x ∈ hs, x ≤ page) (T E : List Int) (I : Inv hs page gap 0 T E) : ∀ (d a : Nat) (acc : List S37) (k : Nat), hs.length ≤ a + d → a ≤ hs.length → acc.length ≤ a → d + 300 ≤ k → partitaref26_Break.l3 k hs page gap hs.length E acc a = some (acc ++ outP hs gap (tabP hs page gap hs.length) d a, 0)
  | 0, a, acc, k, h1, h2, h3, hk => by
    obtain ⟨k, rfl⟩ : ∃ k', k = k' + 1 := ⟨k - 1, by omega⟩
    simp only [partitaref26_Break.l3]
    rw [if_neg (by omega), out_end _ _ _ _ _ (by omega), List.append_nil]
  | d + 1, a, acc, k, h1, h2, h3, hk => by
    obtain ⟨k, rfl⟩ : ∃ k', k = k' + 1 := ⟨k - 1, by omega⟩
    have hl := L.len
    have hle := I.le
    simp only [partitaref26_Break.l3]
    rcases Nat.lt_or_ge a hs.length with ha | ha
    · obtain ⟨-, j, hj, ht, -⟩ := tab_spec L F _ a rfl ha
      have hf := rest_fit L hj
      have he := I.e a (Nat.zero_le _) ha
      rw [ht] at he
      dsimp only at he
      have ho : outP hs gap (tabP hs page gap hs.length) (d + 1) a = pageP hs gap (tabP hs page gap hs.length) a :: outP hs gap (tabP hs page gap hs.length) d (a + j + 1) := by
        show (if a < hs.length then _ else _) = _
        rw [if_pos ha, ht]
        simp only [Int.toNat_natCast]
      rw [ho, page_at ht, if_pos (by omega), if_pos (by omega), if_pos (by omega), he, rest_f L a (a + j + 1) (by omega) hf.1 k (by omega), Option.bind_some]
      by_cases c : ((a + j + 1 : Nat) : Int) = (hs.length : Int)
      · rw [if_pos c, tops_f L a (a + j + 1) (by omega) hf.1 0 (by omega) k (by omega), Option.bind_some, if_pos (by omega), ref_l3 L F T E I d (a + j + 1) _ k (by omega) hf.1 (by rw [List.length_append, List.length_singleton]; omega) (by omega), List.append_assoc]
        have : lrest hs (a + j + 1) (restI hs page gap a (a + j + 1)) = 0 := by unfold lrest; rw [if_pos (by omega)]
        rw [this]; rfl
      · rw [if_neg c, tops_f L a (a + j + 1) (by omega) hf.1 (restI hs page gap a (a + j + 1)) (by omega) k (by omega), Option.bind_some, if_pos (by omega), ref_l3 L F T E I d (a + j + 1) _ k (by omega) hf.1 (by rw [List.length_append, List.length_singleton]; omega) (by omega), List.append_assoc]
        have : lrest hs (a + j + 1) (restI hs page gap a (a + j + 1)) = restI hs page gap a (a + j + 1) := by unfold lrest; rw [if_neg (by omega)]
        rw [this]; rfl
    · rw [if_neg (by omega), out_end _ _ _ _ _ ha, List.append_nil]
theorem ref_l1 {hs : List Int} {page gap : Int} (L : Lns hs page gap) (F : ∀ x ∈ hs, x ≤ page) : ∀ (a : Nat) (T E : List Int) (k : Nat), a ≤ hs.length → Inv hs page gap a T E → 600 * a + 700 ≤ k → partitaref26_Break.l1 k hs page gap hs.length T E ((a : Int) - 1) = some (outP hs gap (tabP hs page gap hs.length) hs.length 0, 0)
  | 0, T, E, k, ha, I, hk => by
    obtain ⟨k, rfl⟩ : ∃ k', k = k' + 1 := ⟨k - 1, by omega⟩
    have hl := L.len
    simp only [partitaref26_Break.l1]
    rw [if_neg (by omega)]
    have := ref_l3 L F T E I hs.length 0 [] k (by omega) (Nat.zero_le _) (Nat.le_refl _) (by omega)
    rw [List.nil_append] at this
    exact this
  | a + 1, T, E, k, ha, I, hk => by
    obtain ⟨k, rfl⟩ : ∃ k', k = k' + 1 := ⟨k - 1, by omega⟩
    have hl := L.len
    have hM := (mP_spec hs page gap a).1
    simp only [partitaref26_Break.l1]
    rw [show ((a + 1 : Nat) : Int) - 1 = (a : Int) by omega, if_pos (by omega), show wrap64 ((a : Int) + 1) = ((a + 1 + 0 : Nat) : Int) from wn (by omega)]
    exact ref_l2 L F (a := a) (by omega) _ (600 * a + 700) (fun T E k I hk => ref_l1 L F a T E k (by omega) I hk) (mP hs page gap a) 0 k T E (by omega) (by omega) I.lt I.le (fun b h1 h2 => I.t b h1 h2) (fun b h1 h2 => I.e b h1 h2) (fun b h1 => I.z b (by omega)) (fun h => absurd rfl h) (I.z a (by omega))
theorem ref_l0 {hs : List Int} {page gap : Int} (hc : chkP hs page gap ≠ some 2) (K : Nat) (hK : 62000 ≤ K) : ∀ (d i k : Nat), hs.length = i + d → K + d + 1 ≤ k → partitaref26_Break.l0 k hs page gap hs.length i = if (∀ x ∈ hs.drop i, x ≤ page) then partitaref26_Break.l1 (k - d - 1) hs page gap hs.length (List.replicate (hs.length + 1) 0) (List.replicate (hs.length + 1) 0) ((hs.length : Int) - 1) else some ([], 260)
  | 0, i, k, e, hk => by
    obtain ⟨k, rfl⟩ : ∃ k', k = k' + 1 := ⟨k - 1, by omega⟩
    have hl := (lns_of hc).len
    simp only [partitaref26_Break.l0]
    rw [if_neg (by omega), w64 (n := (hs.length : Int) + 1) (by omega), if_pos (by omega), if_pos (by omega), List.drop_eq_nil_of_le (by omega), if_pos (by simp), w64 (n := (hs.length : Int) - 1) (by omega), show ((hs.length : Int) + 1).toNat = hs.length + 1 by omega]
    rfl
  | d + 1, i, k, e, hk => by
    obtain ⟨k, rfl⟩ : ∃ k', k = k' + 1 := ⟨k - 1, by omega⟩
    have hi : i < hs.length := by omega
    have hl := (lns_of hc).len
    simp only [partitaref26_Break.l0]
    rw [if_pos (by omega), if_pos (by omega), if_pos (by omega), rd_get hi, List.drop_eq_getElem_cons hi]
    by_cases c : hs[i] > page
    · rw [if_pos c, if_neg (fun h => by have := h _ (List.mem_cons_self ..); omega)]
    · rw [if_neg c, wn (by omega), ref_l0 hc K hK d (i + 1) k (by omega) (by omega)]
      by_cases h : ∀ x ∈ hs.drop (i + 1), x ≤ page
      · rw [if_pos h, if_pos (by intro x hx; rcases List.mem_cons.1 hx with rfl | hx; omega; exact h x hx), show k + 1 - (d + 1) - 1 = k - d - 1 by omega]
      · rw [if_neg h, if_neg (fun h' => h fun x hx => h' x (List.mem_cons_of_mem _ hx))]
theorem refBreak_f (hs : List Int) (page gap : Int) (hn : hs.length ≤ 1000) {k : Nat} (hk : 70000 ≤ k) : partitaref26_Break.f k hs page gap = some (breakP hs page gap) := by
  unfold partitaref26_Break.f breakP
  rw [lay_f hs page gap hn k (by omega), Option.bind_some]
  by_cases c : chkP hs page gap = some 2
  · rw [if_neg (by simp [c]), c]
  · rw [if_pos (by simp [c])]
    have L := lns_of c
    have hl := L.len
    have h0 := ref_l0 c 62000 (by omega) hs.length 0 k (by omega) (by omega)
    rw [show ((0 : Nat) : Int) = 0 from rfl, List.drop_zero] at h0
    rw [h0]
    by_cases F : ∀ x ∈ hs, x ≤ page
    · rw [if_pos F]
      have hcn : chkP hs page gap = none := by
        rcases hx : chkP hs page gap with _ | x
        · rfl
        · rcases chkP_some hx with rfl | rfl
          · exact absurd hx c
          · obtain ⟨y, hy, hny⟩ := chk_260 hx
            exact absurd (F y hy) hny
      rw [hcn]
      have hrep : ∀ b : Nat, b ≤ hs.length → rd (List.replicate (hs.length + 1) (0 : Int)) (b : Int) = 0 := by
        intro b hb
        unfold rd; rw [Int.toNat_natCast, List.getD_eq_getElem?_getD, List.getElem?_replicate, if_pos (by omega)]; rfl
      refine ref_l1 L F hs.length _ _ _ (Nat.le_refl _) ⟨by simp, by simp, fun b h1 h2 => ?_, fun b h1 h2 => absurd h2 (by omega), fun b h1 => hrep b (by omega)⟩ (by omega)
      obtain rfl : b = hs.length := by omega
      rw [hrep _ (Nat.le_refl _)]
      have := totP_range L F (Nat.le_refl hs.length)
      omega
    · rw [if_neg F]
      rcases hx : chkP hs page gap with _ | x
      · exact absurd (fit_of hx).2 F
      · rcases chkP_some hx with rfl | rfl
        · exact absurd hx c
        · rfl
end Go.Proofs.YtbpcilbplgbonaaDoor.Pure
