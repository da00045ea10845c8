/- What some pages cost, plainly. No conditions. -/
import Derived.Test.YtbpcilbplgbonaaDoorPP1
import Derived.Test.YtbpcilbplgbonaaDoorQ5
import Derived.Test.YtbpcilbplgbonaaDoorQ6
namespace Go.Proofs.YtbpcilbplgbonaaDoor.Pure
open Go.RowKit Go.Proofs.YtbpcilbplgbonaaDoor.Q Go.Proofs.YtbpcilbplgbonaaDoorW.PrintWords Go.Proofs.YtbpcilbplgbonaaDoorW.PrintMore
set_option linter.unusedVariables false
set_option maxRecDepth 100000 in
theorem shown_ok {k : Nat} (hk : 200 ≤ k) : partitalaw26_shown.f k = some true := mono_ge partitalaw26_shown.mono (k := 200) (by decide +kernel) hk
theorem rd37 {l : List S37} {i : Nat} (h : i < l.length) : rd_T37 l (i : Int) = l[i] := by
  unfold rd_T37; rw [Int.toNat_natCast, List.getD_eq_getElem?_getD, List.getElem?_eq_getElem h]; rfl
/-- What pages from a line on cost; nothing, where they don't fit. -/
def costL (hs : List Int) (page gap : Int) : Nat → List S37 → Option Int
  | a, [] => if a = hs.length then some 0 else none
  | a, p :: l => if p.f0 = (a : Int) ∧ a < hs.length ∧ (findI hs page gap a p.f1).2 = true then (costL hs page gap p.f1.toNat l).map (cst hs page gap a p.f1.toNat + ·) else none
def outC (s : Int) : Option Int → Int × Bool
  | some x => (s + x, true)
  | none => (0, false)
theorem findI_true {hs : List Int} {page gap : Int} {a : Nat} {q : Int} (h : (findI hs page gap a q).2 = true) : ∃ j, j < mP hs page gap a ∧ q = ((a + j + 1 : Nat) : Int) ∧ findI hs page gap a q = ((((a + j + 1 : Nat) : Int), restI hs page gap a (a + j + 1)), true) := by
  unfold findI at h ⊢
  by_cases c : (a : Int) < q ∧ q ≤ (a : Int) + mP hs page gap a
  · rw [if_pos c]
    obtain ⟨j, hj⟩ : ∃ j : Nat, q = ((a + j + 1 : Nat) : Int) := ⟨(q - a - 1).toNat, by omega⟩
    refine ⟨j, by omega, hj, ?_⟩
    rw [hj, Int.toNat_natCast]
  · rw [if_neg c] at h; cases h
theorem findI_at {hs : List Int} {page gap : Int} {a j : Nat} (h : j < mP hs page gap a) : (findI hs page gap a ((a + j + 1 : Nat) : Int)).2 = true := by
  unfold findI; rw [if_pos (by omega)]
theorem Cost_l0 {hs : List Int} {page gap : Int} (L : Lns hs page gap) (hc : chkP hs page gap ≠ some 2) (l : List S37) (hl : l.length ≤ 4611686018427387904) :
    ∀ (d i a : Nat) (s : Int) (k : Nat), l.length = i + d → a ≤ hs.length → 0 ≤ s → s ≤ 10000000000 * a → 2 * d + 1 ≤ k → pages_Cost.l0 k hs a s l (l.length : Int) i hs page gap = some (outC s (costL hs page gap a (l.drop i))) := by
  have hlen := L.len
  intro d
  induction d with
  | zero =>
    intro i a s k e ha h0 h1 hk
    obtain ⟨k, rfl⟩ : ∃ k', k = k' + 1 := ⟨k - 1, by omega⟩
    simp only [pages_Cost.l0]
    rw [if_neg (by omega), List.drop_eq_nil_of_le (by omega)]
    unfold costL
    by_cases c : a = hs.length
    · rw [if_pos (by omega), if_pos c]; simp [outC]
    · rw [if_neg (by omega), if_neg c]; rfl
  | succ d ih =>
    intro i a s k e ha h0 h1 hk
    obtain ⟨k, rfl⟩ : ∃ k', k = k' + 1 + 1 := ⟨k - 2, by omega⟩
    have hi : i < l.length := by omega
    simp only [pages_Cost.l0]
    rw [if_pos (by omega), if_pos (by omega), if_pos (by omega), rd37 hi, List.drop_eq_getElem_cons hi]
    unfold costL
    by_cases c1 : (l[i]).f0 = (a : Int)
    · rw [if_pos c1]
      simp only [pages_Cost.j1]
      by_cases c2 : a < hs.length
      · rw [if_neg (by simp; omega)]
        have hf : pages_lines_find.f hs page gap a (l[i]).f1 = some ((findI hs page gap a (l[i]).f1).1.1, (findI hs page gap a (l[i]).f1).1.2, (findI hs page gap a (l[i]).f1).2) := by
          unfold pages_lines_find.f; rw [if_pos ⟨hc, by omega, by omega⟩, Int.toNat_natCast]
        rw [hf, Option.bind_some]
        by_cases c3 : (findI hs page gap a (l[i]).f1).2 = true
        · rw [if_pos c3, if_pos ⟨c1, c2, c3⟩]
          obtain ⟨j, hj, hq, hfi⟩ := findI_true c3
          have hr := cst_range L hj
          have hfit := rest_fit L hj
          have hsq := sq_le hfit.2.1 (show restI hs page gap a (a + j + 1) ≤ 100000 by omega)
          have hcost : pages_lines_cost.f hs page gap (findI hs page gap a (l[i]).f1).1.1 (findI hs page gap a (l[i]).f1).1.2 = some (cst hs page gap a (a + j + 1)) := by
            rw [hfi]
            unfold pages_lines_cost.f cst
            dsimp only
            by_cases c4 : a + j + 1 = hs.length
            · rw [if_pos (by omega), if_pos c4]
            · rw [if_neg (by omega), if_neg c4, w64 (by omega)]
          rw [hcost, Option.bind_some, hq, w64 (n := s + _) (by omega), show wrap64 ((i : Int) + 1) = ((i + 1 : Nat) : Int) by unfold wrap64; omega, ih (i + 1) (a + j + 1) (s + cst hs page gap a (a + j + 1)) k (by omega) (by omega) (by omega) (by omega) (by omega), Int.toNat_natCast]
          cases costL hs page gap (a + j + 1) (l.drop (i + 1)) with
          | none => rfl
          | some x => simp [outC]; omega
        · rw [if_neg c3, if_neg (fun h => c3 h.2.2)]; rfl
      · rw [if_pos (by simp; omega), if_neg (fun h => c2 h.2.1)]; rfl
    · rw [if_neg c1, if_neg (fun h => c1 h.1)]
      simp only [pages_Cost.j1]
      rw [if_pos trivial]; rfl
/-- What pages cost. -/
def costF (l : List S37) (hs : List Int) (page gap : Int) : Int × Bool := if chkP hs page gap = some 2 then (0, false) else outC 0 (costL hs page gap 0 l)
theorem Cost_f (l : List S37) (hl : l.length ≤ 4611686018427387904) (hs : List Int) (page gap : Int) (k : Nat) (hk : 2 * l.length + 200 ≤ k) : pages_Cost.f k l hs page gap = some (costF l hs page gap) := by
  unfold pages_Cost.f costF
  rw [check_f hs page gap k (by omega), Option.bind_some]
  unfold pages_told.f
  rw [Option.bind_some]
  by_cases c : chkP hs page gap = some 2
  · rw [c, if_pos (show (some (2 : Int)).getD 0 = 2 from rfl), if_pos rfl]
  · have hne : (chkP hs page gap).getD 0 ≠ 2 := by
      intro h
      rcases hx : chkP hs page gap with _ | x
      · rw [hx] at h; cases h
      · rw [hx] at h; exact c (by rw [hx]; exact congrArg some h)
    rw [if_neg c, if_neg hne]
    have := Cost_l0 (lns_of c) c l hl l.length 0 0 0 k (by omega) (Nat.zero_le _) (Int.le_refl _) (by omega) (by omega)
    rw [List.drop_zero] at this
    exact this
/-- None costs less. -/
theorem costL_ge {hs : List Int} {page gap : Int} (L : Lns hs page gap) (F : ∀ x ∈ hs, x ≤ page) : ∀ (l : List S37) (a : Nat) (s : Int), a ≤ hs.length → costL hs page gap a l = some s → totP hs page gap a ≤ s
  | [], a, s, ha, h => by
    unfold costL at h
    by_cases c : a = hs.length
    · rw [if_pos c] at h
      obtain rfl := Option.some.inj h
      subst c
      have := (totP_range L F (Nat.le_refl hs.length)).2
      omega
    · rw [if_neg c] at h; cases h
  | p :: l, a, s, ha, h => by
    unfold costL at h
    by_cases c : p.f0 = (a : Int) ∧ a < hs.length ∧ (findI hs page gap a p.f1).2 = true
    · rw [if_pos c] at h
      obtain ⟨x, hx, rfl⟩ := Option.map_eq_some_iff.1 h
      obtain ⟨j, hj, hq, -⟩ := findI_true c.2.2
      rw [hq, Int.toNat_natCast] at hx ⊢
      have ih := costL_ge L F l (a + j + 1) x (rest_fit L hj).1 hx
      obtain ⟨-, j', hj', ht, hm⟩ := tab_spec L F _ a rfl c.2.1
      have hv := (hm j hj).1
      have e2 : totP hs page gap a = val hs page gap a j' := by unfold totP; rw [ht]
      rw [e2]
      unfold val at hv ⊢
      omega
    · rw [if_neg c] at h; cases h
/-- The best pages cost what is told. -/
theorem costL_out {hs : List Int} {page gap : Int} (L : Lns hs page gap) (F : ∀ x ∈ hs, x ≤ page) : ∀ (d a : Nat), hs.length ≤ a + d → a ≤ hs.length → costL hs page gap a (outP hs gap (tabP hs page gap hs.length) d a) = some (totP hs page gap a) ∧ (outP hs gap (tabP hs page gap hs.length) d a).length ≤ hs.length - a
  | 0, a, h, h2 => by
    obtain rfl : a = hs.length := by omega
    rw [out_end _ _ _ _ _ (Nat.le_refl _)]
    have h1 := (totP_range L F (Nat.le_refl hs.length))
    refine ⟨?_, by simp⟩
    unfold costL
    rw [if_pos rfl]
    congr 1; omega
  | d + 1, a, h, h2 => by
    rcases Nat.lt_or_ge a hs.length with ha | ha
    · obtain ⟨j, hj, e, ht, -⟩ := out_step L F (d := d) ha
      have hf := rest_fit L hj
      obtain ⟨i1, i2⟩ := costL_out L F d (a + j + 1) (by omega) (by omega)
      rw [e]
      refine ⟨?_, by rw [List.length_cons]; omega⟩
      unfold costL
      rw [if_pos ⟨rfl, ha, findI_at hj⟩]
      show (costL hs page gap (((a + j + 1 : Nat) : Int).toNat) _).map _ = _
      rw [Int.toNat_natCast, i1, ht]
      rfl
    · obtain rfl : a = hs.length := by omega
      rw [out_end _ _ _ _ _ (Nat.le_refl _)]
      have h1 := (totP_range L F (Nat.le_refl hs.length))
      refine ⟨?_, by simp⟩
      unfold costL
      rw [if_pos rfl]
      congr 1; omega
theorem rest_mem {hs : List Int} {page gap : Int} (L : Lns hs page gap) {a i : Nat} : ∀ d : Nat, a ≤ i → i < a + d → a + d ≤ hs.length → (h : i < hs.length) → restI hs page gap a (a + d) ≤ page - hs[i]
  | 0, h1, h2, _, _ => by omega
  | d + 1, h1, h2, h3, h4 => by
    have hlt : a + d < hs.length := by omega
    rw [← Nat.add_assoc, restI_step hs page gap a (a + d) (by omega) hlt]
    have hg := L.gap1
    have hx := L.h _ (List.getElem_mem hlt)
    by_cases c : i = a + d
    · subst c
      have := (restI_range L (a := a) d (by omega)).1
      omega
    · have := rest_mem L d h1 (by omega) (by omega) h4
      omega
/-- Pages that are told stand on pages. -/
theorem costL_fit {hs : List Int} {page gap : Int} (L : Lns hs page gap) : ∀ (l : List S37) (a : Nat) (s : Int), a ≤ hs.length → costL hs page gap a l = some s → ∀ i (h : i < hs.length), a ≤ i → hs[i] ≤ page
  | [], a, s, ha, h, i, hi, hai => by
    unfold costL at h
    by_cases c : a = hs.length
    · omega
    · rw [if_neg c] at h; cases h
  | p :: l, a, s, ha, h, i, hi, hai => by
    unfold costL at h
    by_cases c : p.f0 = (a : Int) ∧ a < hs.length ∧ (findI hs page gap a p.f1).2 = true
    · rw [if_pos c] at h
      obtain ⟨x, hx, rfl⟩ := Option.map_eq_some_iff.1 h
      obtain ⟨j, hj, hq, -⟩ := findI_true c.2.2
      rw [hq, Int.toNat_natCast] at hx
      have hf := rest_fit L hj
      rcases Nat.lt_or_ge i (a + j + 1) with hlt | hge
      · have := rest_mem L (a := a) (i := i) (j + 1) hai (by omega) (by omega) hi
        rw [← Nat.add_assoc] at this
        omega
      · exact costL_fit L l (a + j + 1) x hf.1 hx i hi hge
    · rw [if_neg c] at h; cases h
theorem chk_260 {hs : List Int} {page gap : Int} (h : chkP hs page gap = some 260) : ∃ x ∈ hs, ¬ x ≤ page := by
  have L := lns_of (hs := hs) (page := page) (gap := gap) (by rw [h]; simp)
  unfold chkP at h
  repeat' split at h
  all_goals first | (cases h; done) | (exfalso; have := Option.some.inj h; omega) | skip
  rename_i c5
  refine Classical.byContradiction fun hn => ?_
  have : inB 1 page hs = true := inB_iff.2 fun x hx => ⟨(L.h x hx).1, Classical.byContradiction fun hc => hn ⟨x, hx, hc⟩⟩
  rw [this] at c5; cases c5
end Go.Proofs.YtbpcilbplgbonaaDoor.Pure
