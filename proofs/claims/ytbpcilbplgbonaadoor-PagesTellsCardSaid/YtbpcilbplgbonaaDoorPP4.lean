/- The document's pages and costs are the program's. No conditions. -/
import Derived.Test.YtbpcilbplgbonaaDoorPP3
import Derived.Test.YtbpcilbplgbonaaDoorQ8
import Derived.Test.YtbpcilbplgbonaaDoorQ9
namespace Go.Proofs.YtbpcilbplgbonaaDoor.Pure
open Go.RowKit Go.Proofs.YtbpcilbplgbonaaDoor.Q Go.Proofs.YtbpcilbplgbonaaDoorW.PrintWords Go.Proofs.YtbpcilbplgbonaaDoorW.PrintMore
set_option linter.unusedVariables false
theorem wn {m : Nat} (h : m ≤ 1000000) : wrap64 ((m : Int) + 1) = ((m + 1 : Nat) : Int) := by unfold wrap64; omega
def LayP (hs : List Int) (page gap : Int) (l : List Int) : Prop := (∀ x ∈ l, 1 ≤ x ∧ x ≤ 100000) ∧ hs.length ≤ 100 ∧ 1 ≤ page ∧ page ≤ 100000 ∧ 0 ≤ gap ∧ gap ≤ 100000
instance (hs : List Int) (page gap : Int) (l : List Int) : Decidable (LayP hs page gap l) := by unfold LayP; infer_instance
theorem lay_l0 (hs : List Int) (page gap : Int) (hn : hs.length ≤ 1000) : ∀ (d i k : Nat), hs.length = i + d → d + 1 ≤ k → partitaref26_lay.l0 k hs page gap i = some (decide (LayP hs page gap (hs.drop i)))
  | 0, i, k, e, hk => by
    obtain ⟨k, rfl⟩ : ∃ k', k = k' + 1 := ⟨k - 1, by omega⟩
    simp only [partitaref26_lay.l0]
    rw [if_neg (by omega), List.drop_eq_nil_of_le (by omega)]
    have no : ∀ P : Prop, (P → False) → (LayP hs page gap [] → P) → some false = some (decide (LayP hs page gap [])) := fun P h1 h2 => by rw [decide_eq_false (fun h => h1 (h2 h))]
    by_cases c1 : (hs.length : Int) ≤ 100
    · rw [if_pos c1]
      by_cases c2 : page ≥ 1
      · rw [if_pos c2]
        by_cases c3 : page ≤ 100000
        · rw [if_pos c3]
          by_cases c4 : gap ≥ 0
          · rw [if_pos c4]
            congr 1
            exact decide_eq_decide.2 ⟨fun h => ⟨by simp, by omega, by omega, c3, by omega, h⟩, fun h => h.2.2.2.2.2⟩
          · rw [if_neg c4]; exact no (0 ≤ gap) (by omega) (fun h => h.2.2.2.2.1)
        · rw [if_neg c3]; exact no (page ≤ 100000) c3 (fun h => h.2.2.2.1)
      · rw [if_neg c2]; exact no (1 ≤ page) (by omega) (fun h => h.2.2.1)
    · rw [if_neg c1]; exact no (hs.length ≤ 100) (by omega) (fun h => h.2.1)
  | d + 1, i, k, e, hk => by
    obtain ⟨k, rfl⟩ : ∃ k', k = k' + 1 := ⟨k - 1, by omega⟩
    have hi : i < hs.length := by omega
    simp only [partitaref26_lay.l0]
    rw [if_pos (by omega), if_pos (by omega), rd_get hi, wn (by omega), lay_l0 hs page gap hn d (i + 1) k (by omega) (by omega), List.drop_eq_getElem_cons hi]
    by_cases c1 : hs[i] < 1
    · rw [if_pos c1, decide_eq_false]
      intro h; have := h.1 _ (List.mem_cons_self ..); omega
    · rw [if_neg c1]
      by_cases c2 : hs[i] > 100000
      · rw [if_pos c2, decide_eq_false]
        intro h; have := h.1 _ (List.mem_cons_self ..); omega
      · rw [if_neg c2]
        congr 1
        refine decide_eq_decide.2 ⟨fun h => ⟨fun x hx => ?_, h.2⟩, fun h => ⟨fun x hx => h.1 x (List.mem_cons_of_mem _ hx), h.2⟩⟩
        rcases List.mem_cons.1 hx with rfl | hx
        · omega
        · exact h.1 x hx
theorem lay_f (hs : List Int) (page gap : Int) (hn : hs.length ≤ 1000) (k : Nat) (hk : hs.length + 1 ≤ k) : partitaref26_lay.f k hs page gap = some (decide (chkP hs page gap ≠ some 2)) := by
  unfold partitaref26_lay.f
  have := lay_l0 hs page gap hn hs.length 0 k (by omega) (by omega)
  rw [show ((0 : Nat) : Int) = 0 from rfl, List.drop_zero] at this
  rw [this]
  congr 1
  refine decide_eq_decide.2 ⟨fun h => ?_, fun h => ?_⟩
  · have c2 : inB 1 100000 [page] = true := inB_iff.2 fun x hx => by rw [List.mem_singleton.1 hx]; exact ⟨h.2.2.1, h.2.2.2.1⟩
    have c3 : inB 0 100000 [gap] = true := inB_iff.2 fun x hx => by rw [List.mem_singleton.1 hx]; exact h.2.2.2.2
    have c4 : inB 1 100000 hs = true := inB_iff.2 h.1
    have := h.2.1
    unfold chkP
    rw [if_neg (by omega), c2, c3, c4]
    simp only [Bool.true_eq_false, if_false]
    split <;> simp
  · have L := lns_of h
    exact ⟨L.h, L.len, L.page1, L.page2, L.gap1, L.gap2⟩
theorem rest_l0 {hs : List Int} {page gap : Int} (L : Lns hs page gap) (a b : Nat) (hb : b ≤ hs.length) : ∀ (d i k : Nat), b = i + d → a ≤ i → d + 1 ≤ k → partitaref26_rest.l0 k hs gap b (restI hs page gap a i) i = some (restI hs page gap a b)
  | 0, i, k, e, ha, hk => by
    obtain ⟨k, rfl⟩ : ∃ k', k = k' + 1 := ⟨k - 1, by omega⟩
    obtain rfl : i = b := by omega
    simp only [partitaref26_rest.l0]
    rw [if_neg (by omega)]
  | d + 1, i, k, e, ha, hk => by
    obtain ⟨k, rfl⟩ : ∃ k', k = k' + 1 := ⟨k - 1, by omega⟩
    have hi : i < hs.length := by omega
    have hlen := L.len
    obtain ⟨m, rfl⟩ : ∃ m, i = a + m := ⟨i - a, by omega⟩
    have hr := restI_range L (a := a) m (by omega)
    have hx := L.h _ (List.getElem_mem hi)
    have h1 := L.page1
    have h2 := L.page2
    have h3 := L.gap1
    have h4 := L.gap2
    simp only [partitaref26_rest.l0]
    rw [if_pos (by omega), if_pos (by omega), if_pos (by omega), rd_get hi, wn (by omega), w64 (n := restI hs page gap a (a + m) - hs[a + m]) (by omega), w64 (by omega)]
    have e1 : restI hs page gap a (a + m) - hs[a + m] - gap = restI hs page gap a (a + m + 1) := by rw [restI_step hs page gap a (a + m) (by omega) hi]; omega
    rw [e1]
    exact rest_l0 L a b hb d (a + m + 1) k (by omega) (by omega) (by omega)
theorem rest_f {hs : List Int} {page gap : Int} (L : Lns hs page gap) (a b : Nat) (hab : a ≤ b) (hb : b ≤ hs.length) (k : Nat) (hk : hs.length + 1 ≤ k) : partitaref26_rest.f k hs page gap a b = some (restI hs page gap a b) := by
  unfold partitaref26_rest.f
  have h1 := L.page1
  have h2 := L.page2
  have h3 := L.gap1
  have h4 := L.gap2
  rw [w64 (by omega), ← restI_self hs page gap a]
  exact rest_l0 L a b hb (b - a) a k (by omega) (Nat.le_refl _) (by omega)
theorem tops_l0 {hs : List Int} {page gap : Int} (L : Lns hs page gap) (a b : Nat) (hb : b ≤ hs.length) (left : Int) (hl : 0 ≤ left ∧ left ≤ 200000) : ∀ (d i k : Nat), b = a + i + d → d + 1 ≤ k → partitaref26_tops.l0 k hs gap a b left (topsI hs gap a left ((b : Int) - a - 1) i) (sumF (hs.map (· + gap)) a (a + i)) ((a + i : Nat) : Int) = some (topsI hs gap a left ((b : Int) - a - 1) (b - a))
  | 0, i, k, e, hk => by
    obtain ⟨k, rfl⟩ : ∃ k', k = k' + 1 := ⟨k - 1, by omega⟩
    simp only [partitaref26_tops.l0]
    rw [if_neg (by omega), show i = b - a by omega]
  | d + 1, i, k, e, hk => by
    obtain ⟨k, rfl⟩ : ∃ k', k = k' + 1 := ⟨k - 1, by omega⟩
    have hi : a + i < hs.length := by omega
    have hlen := L.len
    have hx := L.h _ (List.getElem_mem hi)
    have h3 := L.gap1
    have h4 := L.gap2
    have hs0 := sumG_range L (a := a) i (by omega)
    have hst := sumF_step (hs.map (· + gap)) a (a + i) (by omega) (by rw [List.length_map]; exact hi)
    rw [List.getElem_map] at hst
    have hm : 0 ≤ left * (i : Int) ∧ left * (i : Int) ≤ 20000000 := ⟨Int.mul_nonneg hl.1 (by omega), Int.le_trans (Int.mul_le_mul (c := left) (d := 100) (by omega) (by omega) (by omega) (by omega) : left * (i : Int) ≤ left * 100) (by omega)⟩
    have ih := tops_l0 L a b hb left hl d (i + 1) k (by omega) (by omega)
    rw [topsI_succ, ← Nat.add_assoc, hst] at ih
    have hlt : (topsI hs gap a left ((b : Int) - a - 1) i).length < 17592186044416 := by rw [topsI_len]; omega
    simp only [partitaref26_tops.l0]
    rw [if_pos (by omega), w64 (n := (b : Int) - a) (by omega), w64 (n := (b : Int) - a - 1) (by omega), rd_get hi, w64 (n := sumF (hs.map (· + gap)) a (a + i) + hs[a + i]) (by omega), w64 (n := sumF (hs.map (· + gap)) a (a + i) + hs[a + i] + gap) (by omega), wn (by omega), show ((a + i : Nat) : Int) - a = (i : Int) by omega, w64 (n := (i : Int)) (by omega), w64 (n := left * i) (by omega)]
    by_cases c : (b : Int) - a > 1
    · have q0 := Int.tdiv_nonneg hm.1 (b := (b : Int) - a - 1) (by omega)
      have q1 : Int.tdiv (left * (i : Int)) ((b : Int) - a - 1) ≤ left * i := by rw [Int.tdiv_eq_ediv_of_nonneg hm.1]; exact Int.ediv_le_self _ hm.1
      rw [if_pos c, if_neg (by omega), if_pos hlt, if_pos (by omega), if_pos (by omega), w64 (n := Int.tdiv (left * i) ((b : Int) - a - 1)) (by omega), w64 (n := sumF (hs.map (· + gap)) a (a + i) + Int.tdiv (left * i) ((b : Int) - a - 1)) (by omega)]
      have e1 : topI hs gap a left ((b : Int) - a - 1) i = sumF (hs.map (· + gap)) a (a + i) + Int.tdiv (left * i) ((b : Int) - a - 1) := by unfold topI moreI; rw [if_pos (by omega)]
      rw [e1, ← Int.add_assoc] at ih
      exact ih
    · rw [if_neg c, if_pos hlt, if_pos (by omega), if_pos (by omega), Int.add_zero, w64 (n := sumF (hs.map (· + gap)) a (a + i)) (by omega)]
      have e1 : topI hs gap a left ((b : Int) - a - 1) i = sumF (hs.map (· + gap)) a (a + i) := by unfold topI moreI; rw [if_neg (by omega), Int.add_zero]
      rw [e1, ← Int.add_assoc] at ih
      exact ih
theorem tops_f {hs : List Int} {page gap : Int} (L : Lns hs page gap) (a b : Nat) (hab : a ≤ b) (hb : b ≤ hs.length) (left : Int) (hl : 0 ≤ left ∧ left ≤ 200000) (k : Nat) (hk : hs.length + 1 ≤ k) : partitaref26_tops.f k hs gap a b left = some (topsI hs gap a left ((b : Int) - a - 1) (b - a)) := by
  unfold partitaref26_tops.f
  have := tops_l0 L a b hb left hl (b - a) 0 k (by omega) (by omega)
  rw [Nat.add_zero, sumF_self] at this
  exact this
/-- What pages cost, by the document. -/
theorem refCost_l0 {hs : List Int} {page gap : Int} (L : Lns hs page gap) (l : List S37) (hl : l.length ≤ 1000) :
    ∀ (d i a : Nat) (s : Int) (k : Nat), l.length = i + d → a ≤ hs.length → 0 ≤ s → s ≤ 10000000000 * a → 2 * d + 300 ≤ k → partitaref26_Cost.l0 k l hs page gap a s i = some (outC s (costL hs page gap a (l.drop i))) := by
  have hlen := L.len
  intro d
  induction d with
  | zero =>
    intro i a s k e ha h0 h1 hk
    obtain ⟨k, rfl⟩ : ∃ k', k = k' + 1 := ⟨k - 1, by omega⟩
    simp only [partitaref26_Cost.l0]
    rw [if_neg (by omega), List.drop_eq_nil_of_le (by omega)]
    unfold costL
    by_cases c : a = hs.length
    · rw [if_pos (by omega), if_pos c]; simp [outC]
    · rw [if_neg (by omega), if_neg c]; rfl
  | succ d ih =>
    intro i a s k e ha h0 h1 hk
    obtain ⟨k, rfl⟩ : ∃ k', k = k' + 1 + 1 := ⟨k - 2, by omega⟩
    have hi : i < l.length := by omega
    simp only [partitaref26_Cost.l0]
    rw [if_pos (by omega), if_pos (by omega), rd37 hi, List.drop_eq_getElem_cons hi]
    unfold costL
    by_cases c1 : (l[i]).f0 = (a : Int)
    · rw [if_pos c1]
      by_cases c2 : (l[i]).f1 ≤ (a : Int)
      · rw [if_pos c2]
        simp only [partitaref26_Cost.j1]
        rw [if_pos trivial, if_neg]
        · rfl
        · rintro ⟨-, -, h⟩; obtain ⟨j, hj, hq, -⟩ := findI_true h; omega
      rw [if_neg c2]
      simp only [partitaref26_Cost.j1]
      by_cases c3 : (l[i]).f1 > (hs.length : Int)
      · rw [if_pos (decide_eq_true c3), if_neg]
        · rfl
        · rintro ⟨-, -, h⟩; obtain ⟨j, hj, hq, -⟩ := findI_true h; have := rest_fit L hj; omega
      rw [if_neg (by simpa using c3), if_pos (by omega), if_pos (by omega), rd37 hi]
      obtain ⟨j, hj⟩ : ∃ j : Nat, (l[i]).f1 = ((a + j + 1 : Nat) : Int) := ⟨((l[i]).f1 - a - 1).toNat, by omega⟩
      rw [hj, rest_f L a (a + j + 1) (by omega) (by omega) k (by omega), Option.bind_some]
      by_cases c4 : restI hs page gap a (a + j + 1) < 0
      · rw [if_pos c4, if_neg]
        · rfl
        · rintro ⟨-, -, h⟩
          obtain ⟨j', hj', hq, -⟩ := findI_true h
          obtain rfl : j = j' := by omega
          have := rest_fit L hj'; omega
      · have hjm : j < mP hs page gap a := (fit_lt L (by omega)).2 (by omega)
        have hr := cst_range L hjm
        have hf := rest_fit L hjm
        have hsq := sq_le hf.2.1 (show restI hs page gap a (a + j + 1) ≤ 100000 by omega)
        rw [if_neg c4, wn (by omega)]
        have hcond : (l[i]).f0 = (a : Int) ∧ a < hs.length ∧ (findI hs page gap a ((a + j + 1 : Nat) : Int)).2 = true := ⟨c1, by omega, findI_at hjm⟩
        have fin : ∀ s' : Int, s' = s + cst hs page gap a (a + j + 1) → partitaref26_Cost.l0 k l hs page gap ((a + j + 1 : Nat) : Int) s' ((i + 1 : Nat) : Int) = some (outC s ((costL hs page gap (a + j + 1) (l.drop (i + 1))).map (cst hs page gap a (a + j + 1) + ·))) := by
          intro s' hs'
          subst hs'
          rw [ih (i + 1) (a + j + 1) (s + cst hs page gap a (a + j + 1)) k (by omega) hf.1 (by omega) (by omega) (by omega)]
          cases costL hs page gap (a + j + 1) (l.drop (i + 1)) with
          | none => rfl
          | some x => simp [outC]; omega
        by_cases c5 : ((a + j + 1 : Nat) : Int) < (hs.length : Int)
        · rw [if_pos c5, w64 (n := restI hs page gap a (a + j + 1) * restI hs page gap a (a + j + 1)) (by omega), w64 (n := s + restI hs page gap a (a + j + 1) * restI hs page gap a (a + j + 1)) (by omega), if_pos hcond, Int.toNat_natCast]
          exact fin _ (by unfold cst; rw [if_neg (by omega)])
        · rw [if_neg c5, if_pos hcond, Int.toNat_natCast]
          exact fin _ (by unfold cst; rw [if_pos (by omega)]; omega)
    · rw [if_neg c1, if_neg (fun h => c1 h.1)]
      simp only [partitaref26_Cost.j1]
      rw [if_pos trivial]; rfl
theorem refCost_f (l : List S37) (hl : l.length ≤ 1000) (hs : List Int) (hn : hs.length ≤ 1000) (page gap : Int) (k : Nat) (hk : 4000 ≤ k) : partitaref26_Cost.f k l hs page gap = some (costF l hs page gap) := by
  unfold partitaref26_Cost.f costF
  rw [lay_f hs page gap hn k (by omega), Option.bind_some]
  by_cases c : chkP hs page gap = some 2
  · rw [if_neg (by simp [c]), if_pos c]
  · rw [if_pos (by simp [c]), if_neg c]
    have := refCost_l0 (lns_of c) l hl l.length 0 0 0 k (by omega) (Nat.zero_le _) (Int.le_refl _) (by omega) (by omega)
    rw [List.drop_zero] at this
    exact this
end Go.Proofs.YtbpcilbplgbonaaDoor.Pure
