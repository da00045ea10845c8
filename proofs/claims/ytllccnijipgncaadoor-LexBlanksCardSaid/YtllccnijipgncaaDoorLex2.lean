/- Texts that may stand within quotes, byte by byte. No conditions. -/
import Derived.Test.YtllccnijipgncaaDoorLex0
import Derived.Lib.ValidLaws
namespace Go.Proofs.YtllccnijipgncaaDoor.Q
open Go.RowKit Go.Shelf Go.Lib Go.Proofs.YtllccnijipgncaaDoorW.PrintWords
set_option linter.unusedVariables false
/-- How many bytes the rune has that a text begins with, its first byte being 128 or above; none: it is no rune. -/
def chkL (l : List UInt8) : Option Nat := checkN l.length (l.getD 1 0).toNat (l.getD 2 0).toNat (l.getD 3 0).toNat (firstT (l.getD 0 0).toNat % 8) (accLo (firstT (l.getD 0 0).toNat / 16)) (accHi (firstT (l.getD 0 0).toNat / 16))
theorem lo_ge : ∀ b : Fin 256, (firstT b.val % 8 = 2 ∨ firstT b.val % 8 = 3 ∨ firstT b.val % 8 = 4) → 128 ≤ accLo (firstT b.val / 16) := by decide +kernel
theorem chk_range (l : List UInt8) (k : Nat) (h : chkL l = some k) : 2 ≤ k ∧ k ≤ 4 ∧ k ≤ l.length ∧ (∀ j, 1 ≤ j → j < k → 128 ≤ (l.getD j 0).toNat) := by
  unfold chkL checkN at h
  have hlo := lo_ge ⟨(l.getD 0 0).toNat, (l.getD 0 0).toNat_lt⟩
  simp only [] at hlo
  generalize accLo (firstT (l.getD 0 0).toNat / 16) = lo at h hlo
  generalize accHi (firstT (l.getD 0 0).toNat / 16) = hi at h
  generalize firstT (l.getD 0 0).toNat % 8 = sz at h hlo
  split at h
  · split at h
    · cases h
    · obtain rfl := Option.some.inj h
      refine ⟨by omega, by omega, by omega, fun j h1 h2 => ?_⟩
      obtain rfl : j = 1 := by omega
      have := hlo (by omega); omega
  split at h
  · split at h
    · cases h
    · obtain rfl := Option.some.inj h
      refine ⟨by omega, by omega, by omega, fun j h1 h2 => ?_⟩
      have := hlo (by omega)
      obtain rfl | rfl : j = 1 ∨ j = 2 := by omega
      · omega
      · omega
  split at h
  · split at h
    · cases h
    · obtain rfl := Option.some.inj h
      refine ⟨by omega, by omega, by omega, fun j h1 h2 => ?_⟩
      have := hlo (by omega)
      obtain rfl | rfl | rfl : j = 1 ∨ j = 2 ∨ j = 3 := by omega
      · omega
      · omega
      · omega
  · cases h
/-- May a text stand within quotes? -/
def vd : List UInt8 → Bool
  | [] => true
  | c :: t => if c.toNat < 128 then !(oddR c.toNat) && vd t else match chkL (c :: t) with
    | none => false
    | some k => vd (t.drop (k - 1))
  termination_by l => l.length
  decreasing_by all_goals simp only [List.length_drop, List.length_cons]; omega
theorem vd_nil : vd [] = true := by rw [vd]
theorem vd_asc (c : UInt8) (t : List UInt8) (h : c.toNat < 128) : vd (c :: t) = (!(oddR c.toNat) && vd t) := by rw [vd, if_pos h]
theorem vd_none (c : UInt8) (t : List UInt8) (h : ¬ c.toNat < 128) (hk : chkL (c :: t) = none) : vd (c :: t) = false := by rw [vd, if_neg h, hk]
theorem vd_some (c : UInt8) (t : List UInt8) (k : Nat) (h : ¬ c.toNat < 128) (hk : chkL (c :: t) = some k) : vd (c :: t) = vd (t.drop (k - 1)) := by rw [vd, if_neg h, hk]
theorem rune_ge (n b0 b1 b2 b3 : Nat) (h : 2 ≤ (decodeN n b0 b1 b2 b3).2) : 128 ≤ (decodeN n b0 b1 b2 b3).1 := by
  unfold decodeN at h ⊢
  repeat' split
  all_goals (simp_all <;> omega)
theorem odd_no (r : Nat) (h : 128 ≤ r) : oddR r = false := by unfold oddR; rw [decide_eq_false_iff_not]; omega
theorem ins_vd (s : ByteArray) : ∀ (f pos : Nat), s.size - pos ≤ f → (Lib.validD (s.data.toList.drop pos) && (Lib.idxFuncFrom oddR true s f pos == -1)) = vd (s.data.toList.drop pos)
  | 0, pos, h => by
    rw [List.drop_of_length_le (by rw [size_list]; omega), vd_nil]; rfl
  | f + 1, pos, h => by
    by_cases hp : pos < s.size
    · have hdr := drop_cons s pos hp
      have hdec := Lib.decodeL_drop s pos
      simp only [Lib.idxFuncFrom]
      rw [if_pos hp, ← hdec, hdr]
      by_cases ha : s[pos].toNat < 128
      · rw [vd_asc _ _ ha, Lib.validD_cons _ _ ha, Lib.decodeL_ascii _ _ ha]
        simp only []
        have ih := ins_vd s f (pos + 1) (by omega)
        cases ho : oddR s[pos].toNat with
        | true =>
          rw [if_pos rfl, show (((pos : Nat) : Int) == -1) = false by rw [beq_eq_false_iff_ne]; omega]; simp
        | false =>
          rw [if_neg (by simp), ih]; simp
      · have hne : s[pos] :: s.data.toList.drop (pos + 1) ≠ [] := by simp
        have hl := Lib.validD_lead (s[pos] :: s.data.toList.drop (pos + 1)) hne (by simpa using Nat.le_of_not_lt ha)
        have hcd := check_decode (s[pos] :: s.data.toList.drop (pos + 1)).length ((s[pos] :: s.data.toList.drop (pos + 1)).getD 0 0).toNat ((s[pos] :: s.data.toList.drop (pos + 1)).getD 1 0).toNat ((s[pos] :: s.data.toList.drop (pos + 1)).getD 2 0).toNat ((s[pos] :: s.data.toList.drop (pos + 1)).getD 3 0).toNat (by simp) (by simpa using Nat.le_of_not_lt ha) (UInt8.toNat_lt _) (UInt8.toNat_lt _) (UInt8.toNat_lt _) (UInt8.toNat_lt _)
        rw [← decodeL_N] at hcd
        change (chkL _ = none ∧ _) ∨ (∃ k, 2 ≤ k ∧ chkL _ = some k ∧ _) at hcd
        change _ = (match chkL (s[pos] :: s.data.toList.drop (pos + 1)) with | none => false | some k => Lib.validD ((s[pos] :: s.data.toList.drop (pos + 1)).drop k)) at hl
        rcases hcd with ⟨h1, h2⟩ | ⟨k, h1, h2, h3⟩
        · rw [vd_none _ _ ha h1, hl, h1]; rfl
        · rw [vd_some _ _ k ha h2, hl, h2]
          have hr : 128 ≤ (decodeL (s[pos] :: s.data.toList.drop (pos + 1))).1 := by
            rw [decodeL_N] at h3 ⊢
            exact rune_ge _ _ _ _ _ (by omega)
          rw [odd_no _ hr, if_neg (by simp), h3]
          have ih := ins_vd s f (pos + k) (by omega)
          have e1 : (s[pos] :: s.data.toList.drop (pos + 1)).drop k = s.data.toList.drop (pos + k) := by
            rw [← hdr, List.drop_drop]
          have e2 : (s.data.toList.drop (pos + 1)).drop (k - 1) = s.data.toList.drop (pos + k) := by
            rw [List.drop_drop]; congr 1; omega
          show (Lib.validD ((s[pos] :: s.data.toList.drop (pos + 1)).drop k) && _) = _
          rw [e1, e2]
          exact ih
    · rw [List.drop_of_length_le (by rw [size_list]; omega), vd_nil]
      simp only [Lib.idxFuncFrom]
      rw [if_neg hp]; rfl
theorem insB_vd (s : ByteArray) : insB s = vd s.data.toList := by
  have h := ins_vd s s.size 0 (by omega)
  rw [List.drop_zero] at h
  unfold insB
  rw [← h]
  congr 1
  have hr := idxFunc_range oddR true s
  show (!decide (0 ≤ Lib.idxFunc oddR true s)) = (Lib.idxFunc oddR true s == -1)
  rcases hr with h1 | ⟨h1, h2⟩
  · rw [h1]; rfl
  · rw [decide_eq_true h1, show (Lib.idxFunc oddR true s == -1) = false by rw [beq_eq_false_iff_ne]; omega]; rfl
theorem insL_vd (l : List UInt8) : insL l = vd l := insB_vd ⟨l.toArray⟩
theorem vd_mem : ∀ (n : Nat) (l : List UInt8), l.length ≤ n → vd l = true → ∀ c ∈ l, 32 ≤ c.toNat ∨ c.toNat = 10 ∨ c.toNat = 9
  | 0, l, hn, _, c, hc => by
    obtain rfl : l = [] := List.eq_nil_of_length_eq_zero (by omega)
    cases hc
  | n + 1, [], hn, _, c, hc => by cases hc
  | n + 1, d :: t, hn, h, c, hc => by
    by_cases ha : d.toNat < 128
    · rw [vd_asc _ _ ha, Bool.and_eq_true] at h
      rcases List.mem_cons.1 hc with rfl | hc
      · have := h.1
        unfold oddR at this
        simp only [Bool.not_eq_true', decide_eq_false_iff_not] at this
        omega
      · exact vd_mem n t (by simpa using hn) h.2 c hc
    · cases hk : chkL (d :: t) with
      | none => rw [vd_none _ _ ha hk] at h; cases h
      | some k =>
        rw [vd_some _ _ k ha hk] at h
        obtain ⟨h1, h2, h3, h4⟩ := chk_range _ _ hk
        rcases List.mem_cons.1 hc with rfl | hc
        · omega
        · rw [← List.take_append_drop (k - 1) t] at hc
          rcases List.mem_append.1 hc with hc | hc
          · obtain ⟨j, hj, hjc⟩ := List.mem_iff_getElem.1 hc
            have hj' := hj
            rw [List.length_take] at hj'
            have := h4 (j + 1) (by omega) (by omega)
            rw [List.getElem_take] at hjc
            rw [show (d :: t).getD (j + 1) 0 = c by
              rw [List.getD_cons_succ, List.getD_eq_getElem?_getD, List.getElem?_eq_getElem (by omega), ← hjc]; rfl] at this
            omega
          · exact vd_mem n (t.drop (k - 1)) (by rw [List.length_drop]; simp only [List.length_cons] at hn; omega) h c hc
end Go.Proofs.YtllccnijipgncaaDoor.Q
