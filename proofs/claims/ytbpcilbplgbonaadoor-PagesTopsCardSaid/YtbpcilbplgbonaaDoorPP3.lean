/- Pages of lines as many times as high; of what is behind a line; lists that are the same. No conditions. -/
import Derived.Test.YtbpcilbplgbonaaDoorPP2
namespace Go.Proofs.YtbpcilbplgbonaaDoor.Pure
open Go.RowKit Go.Proofs.YtbpcilbplgbonaaDoor.Q Go.Proofs.YtbpcilbplgbonaaDoorW.PrintWords Go.Proofs.YtbpcilbplgbonaaDoorW.PrintMore
set_option linter.unusedVariables false
theorem pick_same {n : Nat} {v v' : Nat → Int} {j j' : Nat} (hj : j < n) (hj' : j' < n) (h : ∀ i, i < n → v j ≤ v i ∧ (j < i → v j < v i)) (h' : ∀ i, i < n → v' j' ≤ v' i ∧ (j' < i → v' j' < v' i))
    (iso : ∀ i i', i < n → i' < n → (v' i ≤ v' i' ↔ v i ≤ v i')) : j = j' := by
  rcases Nat.lt_trichotomy j j' with c | c | c
  · have h1 := (h j' hj').2 c
    have h2 := (iso j' j hj' hj).1 (h' j hj).1
    omega
  · exact c
  · have h1 := (h' j hj).2 c
    have h2 := (iso j j' hj hj').2 (h j' hj').1
    omega
theorem mul_le_iff {c x y : Int} (hc : 0 < c) : c * x ≤ c * y ↔ x ≤ y := ⟨fun h => Int.le_of_mul_le_mul_left h hc, fun h => Int.mul_le_mul_of_nonneg_left h (by omega)⟩
theorem sum_mul (c : Int) : ∀ l : List Int, (l.map (c * ·)).sum = c * l.sum
  | [] => by simp
  | x :: l => by rw [List.map_cons, List.sum_cons, List.sum_cons, sum_mul c l, Int.mul_add]
theorem sumF_mul (c : Int) (l : List Int) (a b : Nat) : sumF (l.map (c * ·)) a b = c * sumF l a b := by
  unfold sumF; rw [← List.map_take, ← List.map_drop, sum_mul]
theorem restI_mul (c : Int) (hs : List Int) (page gap : Int) (a b : Nat) : restI (hs.map (c * ·)) (c * page) (c * gap) a b = c * restI hs page gap a b := by
  unfold restI
  have e : (hs.map (c * ·)).map (· + c * gap) = (hs.map (· + gap)).map (c * ·) := by
    rw [List.map_map, List.map_map]; apply List.map_congr_left; intro x _; show c * x + c * gap = c * (x + gap); rw [Int.mul_add]
  rw [e, sumF_mul, Int.mul_sub, Int.mul_add]
theorem nonneg_mul_iff {c x : Int} (hc : 0 < c) : 0 ≤ c * x ↔ 0 ≤ x := by have := mul_le_iff (x := 0) (y := x) hc; rwa [Int.mul_zero] at this
theorem mP_mul (c : Int) (hc : 0 < c) (hs : List Int) (page gap : Int) (a : Nat) : mP (hs.map (c * ·)) (c * page) (c * gap) a = mP hs page gap a := by
  unfold mP
  rw [List.length_map]
  congr 1
  funext k
  rw [restI_mul]
  exact decide_eq_decide.2 (nonneg_mul_iff hc)
theorem cst_mul (c : Int) (hs : List Int) (page gap : Int) (a b : Nat) : cst (hs.map (c * ·)) (c * page) (c * gap) a b = c * c * cst hs page gap a b := by
  unfold cst
  rw [List.length_map, restI_mul]
  split
  · simp
  · rw [Int.mul_assoc c c, Int.mul_assoc c, ← Int.mul_assoc (restI hs page gap a b) c, Int.mul_comm (restI hs page gap a b) c, Int.mul_assoc c]
/-- The ways of lines as many times as high. -/
theorem tot_mul {c : Int} (hc : 0 < c) {hs : List Int} {page gap : Int} (L : Lns hs page gap) (F : ∀ x ∈ hs, x ≤ page) (L' : Lns (hs.map (c * ·)) (c * page) (c * gap)) (F' : ∀ x ∈ hs.map (c * ·), x ≤ c * page) :
    ∀ (d a : Nat), hs.length - a = d → a ≤ hs.length → totP (hs.map (c * ·)) (c * page) (c * gap) a = c * c * totP hs page gap a := by
  intro d
  induction d using Nat.strongRecOn with
  | _ d ih =>
    intro a had ha
    have hcc : 0 < c * c := Int.mul_pos hc hc
    rcases Nat.lt_or_ge a hs.length with h | h
    · have hval : ∀ i, i < mP hs page gap a → val (hs.map (c * ·)) (c * page) (c * gap) a i = c * c * val hs page gap a i := by
        intro i hi
        have hf := rest_fit L hi
        unfold val
        rw [cst_mul, ih (hs.length - (a + i + 1)) (by omega) (a + i + 1) rfl hf.1, Int.mul_add]
      obtain ⟨-, j, hj, ht, hm⟩ := tab_spec L F _ a rfl h
      obtain ⟨-, j', hj', ht', hm'⟩ := tab_spec L' F' _ a rfl (by rw [List.length_map]; exact h)
      rw [mP_mul c hc] at hj' hm'
      have e := pick_same hj hj' hm hm' (fun i i' hi hi' => by rw [hval i hi, hval i' hi']; exact mul_le_iff hcc)
      subst e
      have e1 : totP hs page gap a = val hs page gap a j := by unfold totP; rw [ht]
      have e2 : totP (hs.map (c * ·)) (c * page) (c * gap) a = val (hs.map (c * ·)) (c * page) (c * gap) a j := by unfold totP; rw [ht']
      rw [e1, e2, hval j hj]
    · have : a = hs.length := by omega
      subst this
      rcases Nat.eq_zero_or_pos hs.length with h0 | h0
      · have : hs = [] := List.length_eq_zero_iff.1 h0
        subst this; show (0 : Int) = c * c * 0; simp
      · have e := totP_end (hs.map (c * ·)) (c * page) (c * gap) (by rw [List.length_map]; exact h0)
        rw [List.length_map] at e
        rw [e, totP_end _ _ _ h0]; simp
/-- They are parted alike. -/
theorem out_mul {c : Int} (hc : 0 < c) {hs : List Int} {page gap : Int} (L : Lns hs page gap) (F : ∀ x ∈ hs, x ≤ page) (L' : Lns (hs.map (c * ·)) (c * page) (c * gap)) (F' : ∀ x ∈ hs.map (c * ·), x ≤ c * page) :
    ∀ (d a : Nat), a ≤ hs.length → (outP (hs.map (c * ·)) (c * gap) (tabP (hs.map (c * ·)) (c * page) (c * gap) (hs.map (c * ·)).length) d a).map (fun x => (x.f0, x.f1)) = (outP hs gap (tabP hs page gap hs.length) d a).map (fun x => (x.f0, x.f1))
  | 0, a, _ => rfl
  | d + 1, a, ha => by
    rcases Nat.lt_or_ge a hs.length with h | h
    · have hcc : 0 < c * c := Int.mul_pos hc hc
      obtain ⟨j, hj, e, -, hm⟩ := out_step L F (d := d) h
      obtain ⟨j', hj', e', -, hm'⟩ := out_step L' F' (d := d) (a := a) (by rw [List.length_map]; exact h)
      rw [mP_mul c hc] at hj' hm'
      have hval : ∀ i, i < mP hs page gap a → val (hs.map (c * ·)) (c * page) (c * gap) a i = c * c * val hs page gap a i := by
        intro i hi
        have hf := rest_fit L hi
        unfold val
        rw [cst_mul, tot_mul hc L F L' F' _ (a + i + 1) rfl hf.1, Int.mul_add]
      have ej := pick_same hj hj' hm hm' (fun i i' hi hi' => by rw [hval i hi, hval i' hi']; exact mul_le_iff hcc)
      subst ej
      have hf := rest_fit L hj
      rw [e, e', List.map_cons, List.map_cons, out_mul hc L F L' F' d (a + j + 1) hf.1]
      rfl
    · rw [out_end _ _ _ _ _ h, out_end _ _ _ _ _ (by rw [List.length_map]; exact h)]
theorem sumF_drop (l : List Int) (t a b : Nat) : sumF (l.drop t) a b = sumF l (t + a) (t + b) := by
  unfold sumF; rw [List.take_drop, List.drop_drop]
theorem restI_drop (hs : List Int) (page gap : Int) (t a b : Nat) : restI (hs.drop t) page gap a b = restI hs page gap (t + a) (t + b) := by
  unfold restI; rw [List.map_drop, sumF_drop]
theorem mP_drop (hs : List Int) (page gap : Int) (t a : Nat) : mP (hs.drop t) page gap a = mP hs page gap (t + a) := by
  unfold mP
  rw [List.length_drop, show hs.length - t - a = hs.length - (t + a) by omega]
  congr 1
  funext k
  rw [restI_drop, show t + (a + k + 1) = t + a + k + 1 by omega]
theorem cst_drop (hs : List Int) (page gap : Int) (t a b : Nat) (ht : t ≤ hs.length) : cst (hs.drop t) page gap a b = cst hs page gap (t + a) (t + b) := by
  unfold cst
  rw [List.length_drop, restI_drop]
  by_cases h : b = hs.length - t
  · rw [if_pos h, if_pos (by omega)]
  · rw [if_neg h, if_neg (by omega)]
theorem tot_drop {hs : List Int} {page gap : Int} (L : Lns hs page gap) (F : ∀ x ∈ hs, x ≤ page) {t : Nat} (L' : Lns (hs.drop t) page gap) (F' : ∀ x ∈ hs.drop t, x ≤ page) (ht : t ≤ hs.length) :
    ∀ (d a : Nat), hs.length - t - a = d → t + a ≤ hs.length → totP (hs.drop t) page gap a = totP hs page gap (t + a) := by
  intro d
  induction d using Nat.strongRecOn with
  | _ d ih =>
    intro a had ha
    rcases Nat.lt_or_ge (t + a) hs.length with h | h
    · have hval : ∀ i, i < mP hs page gap (t + a) → val (hs.drop t) page gap a i = val hs page gap (t + a) i := by
        intro i hi
        have hf := rest_fit L hi
        unfold val
        rw [cst_drop _ _ _ _ _ _ ht, ih (hs.length - t - (a + i + 1)) (by omega) (a + i + 1) rfl (by omega), show t + (a + i + 1) = t + a + i + 1 by omega]
      obtain ⟨-, j, hj, hT, hm⟩ := tab_spec L F _ (t + a) rfl h
      obtain ⟨-, j', hj', hT', hm'⟩ := tab_spec L' F' _ a rfl (by rw [List.length_drop]; omega)
      rw [mP_drop] at hj' hm'
      have e := pick_same hj hj' hm hm' (fun i i' hi hi' => by rw [hval i hi, hval i' hi'])
      subst e
      have e1 : totP hs page gap (t + a) = val hs page gap (t + a) j := by unfold totP; rw [hT]
      have e2 : totP (hs.drop t) page gap a = val (hs.drop t) page gap a j := by unfold totP; rw [hT']
      rw [e1, e2, hval j hj]
    · have hta : t + a = hs.length := by omega
      have e0 := totP_range L F (a := t + a) (by omega)
      have e1 := totP_range L' F' (a := a) (by rw [List.length_drop]; omega)
      rw [List.length_drop] at e1
      omega
/-- A page, so many lines on. -/
def shiftP (t : Int) (x : S37) : S37 := ⟨x.f0 + t, x.f1 + t, x.f2⟩
theorem topsI_drop (hs : List Int) (gap : Int) (t a : Nat) (rest last : Int) (n : Nat) : topsI (hs.drop t) gap a rest last n = topsI hs gap (t + a) rest last n := by
  unfold topsI
  apply List.map_congr_left
  intro i _
  unfold topI
  rw [List.map_drop, sumF_drop, show t + (a + i) = t + a + i by omega]
theorem out_drop {hs : List Int} {page gap : Int} (L : Lns hs page gap) (F : ∀ x ∈ hs, x ≤ page) {t : Nat} (L' : Lns (hs.drop t) page gap) (F' : ∀ x ∈ hs.drop t, x ≤ page) (ht : t ≤ hs.length) :
    ∀ (d a : Nat), t + a ≤ hs.length → (outP (hs.drop t) gap (tabP (hs.drop t) page gap (hs.drop t).length) d a).map (shiftP t) = outP hs gap (tabP hs page gap hs.length) d (t + a)
  | 0, a, _ => rfl
  | d + 1, a, ha => by
    rcases Nat.lt_or_ge (t + a) hs.length with h | h
    · obtain ⟨j, hj, e, -, hm⟩ := out_step L F (d := d) h
      obtain ⟨j', hj', e', -, hm'⟩ := out_step L' F' (d := d) (a := a) (by rw [List.length_drop]; omega)
      rw [mP_drop] at hj' hm'
      have hval : ∀ i, i < mP hs page gap (t + a) → val (hs.drop t) page gap a i = val hs page gap (t + a) i := by
        intro i hi
        have hf := rest_fit L hi
        unfold val
        rw [cst_drop _ _ _ _ _ _ ht, tot_drop L F L' F' ht _ (a + i + 1) rfl (by omega), show t + (a + i + 1) = t + a + i + 1 by omega]
      have ej := pick_same hj hj' hm hm' (fun i i' hi hi' => by rw [hval i hi, hval i' hi'])
      subst ej
      have hf := rest_fit L hj
      have ih := out_drop L F L' F' ht d (a + j + 1) (by omega)
      rw [e, e', List.map_cons, ih]
      have e1 : shiftP t (pg (hs.drop t) page gap a (a + j + 1)) = pg hs page gap (t + a) (t + a + j + 1) := by
        unfold shiftP pg
        simp only [topsI_drop, restI_drop]
        have h1 : t + (a + j + 1) = t + a + j + 1 := by omega
        have h2 : lrest (hs.drop t) (a + j + 1) (restI hs page gap (t + a) (t + a + j + 1)) = lrest hs (t + a + j + 1) (restI hs page gap (t + a) (t + a + j + 1)) := by
          unfold lrest; rw [List.length_drop]
          by_cases c : a + j + 1 = hs.length - t
          · rw [if_pos c, if_pos (by omega)]
          · rw [if_neg c, if_neg (by omega)]
        rw [h1, h2, show a + j + 1 - a = t + a + j + 1 - (t + a) by omega]
        have h3 : ((a + j + 1 : Nat) : Int) - a - 1 = ((t + a + j + 1 : Nat) : Int) - (t + a : Nat) - 1 := by omega
        rw [h3]
        congr 1 <;> omega
      rw [e1, show t + (a + j + 1) = t + a + j + 1 by omega]
    · rw [out_end _ _ _ _ _ h, out_end _ _ _ _ _ (by rw [List.length_drop]; omega)]; rfl
/-- A list is the same as itself. -/
theorem Same_l1 (l : List S37) (hl : l.length ≤ 1000) (ht : ∀ x ∈ l, x.f2.length ≤ 1000) (i : Nat) (hi : i < l.length) (K : Nat) (h : ∀ k, K ≤ k → partitaref26_Same.l0 k l l ((i + 1 : Nat) : Int) = some true) :
    ∀ (e j k : Nat), (l[i]).f2.length = j + e → K + e + 1 ≤ k → partitaref26_Same.l1 k l l i j = some true := by
  have hti := ht _ (List.getElem_mem hi)
  intro e
  induction e with
  | zero =>
    intro j k he hk
    obtain ⟨k, rfl⟩ : ∃ k', k = k' + 1 := ⟨k - 1, by omega⟩
    simp only [partitaref26_Same.l1]
    rw [if_pos (by omega), if_pos (by omega), rd37 hi, if_neg (by omega), show wrap64 ((i : Int) + 1) = ((i + 1 : Nat) : Int) by unfold wrap64; omega]
    exact h k (by omega)
  | succ e ih =>
    intro j k he hk
    obtain ⟨k, rfl⟩ : ∃ k', k = k' + 1 := ⟨k - 1, by omega⟩
    simp only [partitaref26_Same.l1]
    rw [if_pos (by omega), if_pos (by omega), rd37 hi, if_pos (by omega), if_pos (by omega), if_pos (by omega), if_pos (by omega), if_pos trivial, show wrap64 ((j : Int) + 1) = ((j + 1 : Nat) : Int) by unfold wrap64; omega]
    exact ih (j + 1) k (by omega) (by omega)
theorem Same_l0 (l : List S37) (hl : l.length ≤ 1000) (ht : ∀ x ∈ l, x.f2.length ≤ 1000) : ∀ (d i k : Nat), l.length = i + d → 1010 * d + 1 ≤ k → partitaref26_Same.l0 k l l (i : Int) = some true := by
  intro d
  induction d with
  | zero =>
    intro i k he hk
    obtain ⟨k, rfl⟩ : ∃ k', k = k' + 1 := ⟨k - 1, by omega⟩
    simp only [partitaref26_Same.l0]
    rw [if_neg (by omega)]
  | succ d ih =>
    intro i k he hk
    obtain ⟨k, rfl⟩ : ∃ k', k = k' + 1 + 1 := ⟨k - 2, by omega⟩
    have hi : i < l.length := by omega
    have hti := ht _ (List.getElem_mem hi)
    simp only [partitaref26_Same.l0]
    rw [if_pos (by omega), if_pos (by omega), if_pos (by omega), rd37 hi, if_pos trivial, if_pos trivial]
    simp only [partitaref26_Same.j1]
    rw [if_neg (by simp)]
    have := Same_l1 l hl ht i hi (1010 * d + 1) (fun k hk => ih (i + 1) k (by omega) hk) (l[i]).f2.length 0 k (by omega) (by omega)
    simpa using this
theorem Same_refl (l : List S37) (hl : l.length ≤ 200) (ht : ∀ x ∈ l, x.f2.length ≤ 1000) (k : Nat) (hk : 300000 ≤ k) : partitaref26_Same.f k l l = some true := by
  unfold partitaref26_Same.f
  rw [if_pos rfl]
  exact Same_l0 l (by omega) ht l.length 0 k (by omega) (by omega)
theorem out_tops {hs : List Int} {page gap : Int} (L : Lns hs page gap) (F : ∀ x ∈ hs, x ≤ page) : ∀ (d a : Nat), a ≤ hs.length → ∀ x ∈ outP hs gap (tabP hs page gap hs.length) d a, x.f2.length ≤ 1000 ∧ 0 ≤ x.f0 ∧ x.f0 ≤ 1000 ∧ 0 ≤ x.f1 ∧ x.f1 ≤ 1000
  | 0, a, _, x, hx => by cases hx
  | d + 1, a, ha, x, hx => by
    have hlen := L.len
    rcases Nat.lt_or_ge a hs.length with h | h
    · obtain ⟨j, hj, e, -, -⟩ := out_step L F (d := d) h
      have hf := rest_fit L hj
      rw [e] at hx
      rcases List.mem_cons.1 hx with rfl | hx
      · unfold pg; dsimp only; rw [topsI_len]; omega
      · exact out_tops L F d (a + j + 1) hf.1 x hx
    · rw [out_end _ _ _ _ _ h] at hx; cases hx
end Go.Proofs.YtbpcilbplgbonaaDoor.Pure
