/- The document's runes and texts within quotes are the program's. No conditions. -/
import Derived.Test.YtllccnijipgncaaDoorLex4
import Derived.Test.YtllccnijipgncaaDoorQ8
namespace Go.Proofs.YtllccnijipgncaaDoor.Q
open Go.RowKit Go.Shelf Go.Lib Go.Proofs.YtllccnijipgncaaDoorW.PrintWords
set_option linter.unusedVariables false
theorem bt_getD (l : List UInt8) (i : Nat) (h : i < l.length) : bt ⟨l.toArray⟩ (i : Int) = ((l.getD i 0).toNat : Int) := by
  rw [bt_list ⟨l.toArray⟩ i (by rw [size_mk]; exact h)]
  congr 2
  rw [List.getD_eq_getElem?_getD, List.getElem?_eq_getElem h]
  rfl
theorem rune_l0 (l : List UInt8) (n : Nat) (hn : n = 2 ∨ n = 3 ∨ n = 4) (hz : n ≤ l.length) (k : Nat) (hk : 4 ≤ k) : partitaref06_Rune.l0 k ⟨l.toArray⟩ (n : Int) 2 =
    some (if 3 ≤ n ∧ ((l.getD 2 0).toNat < 128 ∨ 191 < (l.getD 2 0).toNat) then 0 else if 4 ≤ n ∧ ((l.getD 3 0).toNat < 128 ∨ 191 < (l.getD 3 0).toNat) then 0 else (n : Int)) := by
  obtain ⟨k, rfl⟩ : ∃ m, k = m + 4 := ⟨k - 4, by omega⟩
  have hs := size_mk l
  rcases hn with rfl | rfl | rfl
  · simp only [partitaref06_Rune.l0]
    rw [if_neg (by omega), if_neg (by omega), if_neg (by omega)]
  · have b2 := bt_getD l 2 (by omega)
    simp only [partitaref06_Rune.l0]
    rw [if_pos (by omega), if_pos (by omega), if_pos (by rw [hs]; omega), show bt ⟨l.toArray⟩ 2 = _ from b2]
    by_cases c1 : (l.getD 2 0).toNat < 128
    · rw [if_pos (by omega), if_pos ⟨by omega, Or.inl c1⟩]
    · rw [if_neg (by omega)]
      by_cases c2 : 191 < (l.getD 2 0).toNat
      · rw [if_pos (by omega), if_pos ⟨by omega, Or.inr c2⟩]
      · rw [if_neg (by omega), w64 (by omega), if_neg (by omega), if_neg (by omega), if_neg (by omega)]
  · have b2 := bt_getD l 2 (by omega)
    have b3 := bt_getD l 3 (by omega)
    simp only [partitaref06_Rune.l0]
    rw [if_pos (by omega), if_pos (by omega), if_pos (by rw [hs]; omega), show bt ⟨l.toArray⟩ 2 = _ from b2]
    by_cases c1 : (l.getD 2 0).toNat < 128
    · rw [if_pos (by omega), if_pos ⟨by omega, Or.inl c1⟩]
    · rw [if_neg (by omega)]
      by_cases c2 : 191 < (l.getD 2 0).toNat
      · rw [if_pos (by omega), if_pos ⟨by omega, Or.inr c2⟩]
      · rw [if_neg (by omega), w64 (by omega)]
        rw [show (2 : Int) + 1 = 3 from rfl, if_pos (by omega), if_pos (by omega), if_pos (by rw [hs]; omega), show bt ⟨l.toArray⟩ 3 = _ from b3]
        by_cases c3 : (l.getD 3 0).toNat < 128
        · rw [if_pos (by omega), if_neg (by omega), if_pos ⟨by omega, Or.inl c3⟩]
        · rw [if_neg (by omega)]
          by_cases c4 : 191 < (l.getD 3 0).toNat
          · rw [if_pos (by omega), if_neg (by omega), if_pos ⟨by omega, Or.inr c4⟩]
          · rw [if_neg (by omega), w64 (by omega), if_neg (by omega), if_neg (by omega), if_neg (by omega)]
/-- Behind the first byte. -/
theorem rune_tail (l : List UInt8) (a n : Nat) (lo hi : Nat) (hn : n = 2 ∨ n = 3 ∨ n = 4) (hz : n ≤ l.length) (hlo : lo = if a = 224 then 160 else if a = 240 then 144 else 128) (hhi : hi = if a = 237 then 159 else if a = 244 then 143 else 191) (k : Nat) (hk : 10 ≤ k) :
    partitaref06_Rune.j6 k ⟨l.toArray⟩ (a : Int) (n : Int) 128 false =
    some (if (l.getD 1 0).toNat < lo ∨ hi < (l.getD 1 0).toNat then 0 else if 3 ≤ n ∧ ((l.getD 2 0).toNat < 128 ∨ 191 < (l.getD 2 0).toNat) then 0 else if 4 ≤ n ∧ ((l.getD 3 0).toNat < 128 ∨ 191 < (l.getD 3 0).toNat) then 0 else (n : Int)) := by
  obtain ⟨k, rfl⟩ : ∃ m, k = m + 4 := ⟨k - 4, by omega⟩
  have hs := size_mk l
  have b1 := bt_getD l 1 (by omega)
  have hb := (l.getD 1 0).toNat_lt
  have e7 : partitaref06_Rune.j6 (k + 4) ⟨l.toArray⟩ (a : Int) (n : Int) 128 false = partitaref06_Rune.j8 (k + 2) ⟨l.toArray⟩ (a : Int) (n : Int) (lo : Int) := by
    simp only [partitaref06_Rune.j6]
    rw [if_neg (by simp)]
    by_cases h1 : a = 224
    · rw [if_pos (by omega)]
      simp only [partitaref06_Rune.j7]
      rw [if_neg (by omega), hlo, if_pos h1]; rfl
    · rw [if_neg (by omega)]
      simp only [partitaref06_Rune.j7]
      by_cases h2 : a = 240
      · rw [if_pos (by omega), hlo, if_neg h1, if_pos h2]; rfl
      · rw [if_neg (by omega), hlo, if_neg h1, if_neg h2]; rfl
  rw [e7]
  have e9 : ∀ b : Bool, partitaref06_Rune.j9 (k + 1) ⟨l.toArray⟩ (n : Int) b = if b = true then some 0 else partitaref06_Rune.l0 k ⟨l.toArray⟩ (n : Int) 2 := fun b => by simp only [partitaref06_Rune.j9]
  simp only [partitaref06_Rune.j8, e9]
  rw [if_pos (by rw [hs]; omega), show bt ⟨l.toArray⟩ 1 = _ from b1, w64 (by omega), rune_l0 l n hn hz k (by omega)]
  generalize (l.getD 1 0).toNat = x at hb
  generalize (if 3 ≤ n ∧ ((l.getD 2 0).toNat < 128 ∨ 191 < (l.getD 2 0).toNat) then (0 : Int) else if 4 ≤ n ∧ ((l.getD 3 0).toNat < 128 ∨ 191 < (l.getD 3 0).toNat) then 0 else (n : Int)) = X
  by_cases c1 : x < lo
  · rw [if_pos (by omega), if_pos (Or.inl c1)]; rfl
  · rw [if_neg (by omega)]
    by_cases c2 : 191 < x
    · rw [if_pos (by omega), if_pos (Or.inr (by rw [hhi]; split; omega; split <;> omega))]; rfl
    · rw [if_neg (by omega)]
      by_cases h1 : a = 237
      · rw [if_pos (by omega)]
        rw [if_pos h1] at hhi
        by_cases c3 : 159 < x
        · rw [if_pos (by omega), if_pos (Or.inr (by omega))]; rfl
        · rw [if_neg (by omega), if_neg (by omega), if_neg (show ¬ (x < lo ∨ hi < x) by omega)]; rfl
      · rw [if_neg (by omega)]
        rw [if_neg h1] at hhi
        by_cases h2 : a = 244
        · rw [if_pos (by omega)]
          rw [if_pos h2] at hhi
          by_cases c3 : 143 < x
          · rw [decide_eq_true (by omega), if_pos (show x < lo ∨ hi < x by omega)]; rfl
          · rw [decide_eq_false (by omega), if_neg (show ¬ (x < lo ∨ hi < x) by omega)]; rfl
        · rw [if_neg (by omega)]
          rw [if_neg h2] at hhi
          rw [if_neg (show ¬ (x < lo ∨ hi < x) by omega)]; rfl
theorem tab_b : ∀ b : Fin 256, 128 ≤ b.val →
    (194 ≤ b.val ∧ b.val ≤ 244 → firstT b.val % 8 = (if b.val ≤ 223 then 2 else if b.val ≤ 239 then 3 else 4) ∧ accLo (firstT b.val / 16) = (if b.val = 224 then 160 else if b.val = 240 then 144 else 128) ∧ accHi (firstT b.val / 16) = (if b.val = 237 then 159 else if b.val = 244 then 143 else 191)) ∧
    (b.val < 194 ∨ 244 < b.val → firstT b.val % 8 = 1) := by decide +kernel
theorem rune_j (s : ByteArray) (b : Nat) (k : Nat) (n : Nat) (hb : 194 ≤ b) (hb2 : b ≤ 244) (hn : n = if b ≤ 223 then 2 else if b ≤ 239 then 3 else 4) :
    partitaref06_Rune.j0 (k + 6) s (b : Int) 0 128 (decide ((b : Int) ≤ 223)) = partitaref06_Rune.j6 k s (b : Int) (n : Int) 128 (decide ((s.size : Int) < (n : Int))) := by
  by_cases h1 : b ≤ 223
  · rw [if_pos h1] at hn
    subst hn
    rw [decide_eq_true (by omega)]
    simp only [partitaref06_Rune.j0]
    rw [if_pos trivial]
    simp only [partitaref06_Rune.j1]
    rw [if_neg (by omega)]
    simp only [partitaref06_Rune.j2]
    rw [if_neg (by simp)]
    simp only [partitaref06_Rune.j3]
    rw [if_neg (by omega)]
    simp only [partitaref06_Rune.j4]
    rw [if_neg (by simp)]
    simp only [partitaref06_Rune.j5]
    rw [if_neg (by omega)]
    rfl
  · rw [if_neg h1] at hn
    by_cases h2 : b ≤ 239
    · rw [if_pos h2] at hn
      subst hn
      rw [decide_eq_false (by omega)]
      simp only [partitaref06_Rune.j0]
      rw [if_neg (by simp)]
      simp only [partitaref06_Rune.j1]
      rw [if_pos (by omega), decide_eq_true (by omega)]
      simp only [partitaref06_Rune.j2]
      rw [if_pos trivial]
      simp only [partitaref06_Rune.j3]
      rw [if_neg (by omega)]
      simp only [partitaref06_Rune.j4]
      rw [if_neg (by simp)]
      simp only [partitaref06_Rune.j5]
      rw [if_neg (by omega)]
      rfl
    · rw [if_neg h2] at hn
      subst hn
      rw [decide_eq_false (by omega)]
      simp only [partitaref06_Rune.j0]
      rw [if_neg (by simp)]
      simp only [partitaref06_Rune.j1]
      rw [if_pos (by omega), decide_eq_false (by omega)]
      simp only [partitaref06_Rune.j2]
      rw [if_neg (by simp)]
      simp only [partitaref06_Rune.j3]
      rw [if_pos (by omega), decide_eq_true (by omega)]
      simp only [partitaref06_Rune.j4]
      rw [if_pos trivial]
      simp only [partitaref06_Rune.j5]
      rw [if_neg (by omega)]
      rfl
theorem rune_f (c : UInt8) (t : List UInt8) (k : Nat) (hk : 20 ≤ k) : partitaref06_Rune.f k ⟨(c :: t).toArray⟩ = some (if c.toNat < 128 then 1 else match chkL (c :: t) with | none => 0 | some n => (n : Int)) := by
  obtain ⟨k, rfl⟩ : ∃ m, k = m + 6 := ⟨k - 6, by omega⟩
  have hs := size_mk (c :: t)
  rw [List.length_cons] at hs
  have hc := c.toNat_lt
  have b0 := bt_getD (c :: t) 0 (by simp)
  rw [List.getD_cons_zero] at b0
  unfold partitaref06_Rune.f
  rw [if_neg (by omega), if_pos (by omega), show bt ⟨(c :: t).toArray⟩ 0 = _ from b0, w64 (by omega)]
  by_cases h128 : c.toNat < 128
  · rw [if_pos (by omega), if_pos h128]
  · rw [if_neg (by omega), if_neg h128]
    have tb := tab_b ⟨c.toNat, hc⟩ (by simp only []; omega)
    simp only [] at tb
    by_cases hin : 194 ≤ c.toNat ∧ c.toNat ≤ 244
    · obtain ⟨e1, e2, e3⟩ := tb.1 hin
      rw [if_pos (by omega)]
      obtain ⟨n, hn⟩ : ∃ n, n = if c.toNat ≤ 223 then 2 else if c.toNat ≤ 239 then 3 else 4 := ⟨_, rfl⟩
      have hn3 : n = 2 ∨ n = 3 ∨ n = 4 := by rw [hn]; split; simp; split <;> simp
      rw [rune_j _ c.toNat k n hin.1 hin.2 hn]
      have hck : chkL (c :: t) = checkN (c :: t).length ((c :: t).getD 1 0).toNat ((c :: t).getD 2 0).toNat ((c :: t).getD 3 0).toNat n (if c.toNat = 224 then 160 else if c.toNat = 240 then 144 else 128) (if c.toNat = 237 then 159 else if c.toNat = 244 then 143 else 191) := by
        unfold chkL
        rw [List.getD_cons_zero, e1, e2, e3, ← hn]
      by_cases hl : (c :: t).length < n
      · rw [decide_eq_true (by rw [hs]; rw [List.length_cons] at hl; omega)]
        obtain ⟨k, rfl⟩ : ∃ m, k = m + 1 := ⟨k - 1, by omega⟩
        simp only [partitaref06_Rune.j6]
        rw [if_pos trivial, hck]
        unfold checkN
        rcases hn3 with rfl | rfl | rfl
        · rw [if_pos rfl, if_pos (Or.inl hl)]
        · rw [if_neg (by omega), if_pos rfl, if_pos (Or.inl hl)]
        · rw [if_neg (by omega), if_neg (by omega), if_pos rfl, if_pos (Or.inl hl)]
      · rw [decide_eq_false (by rw [hs]; rw [List.length_cons] at hl; omega)]
        rw [rune_tail (c :: t) c.toNat n _ _ hn3 (by omega) rfl rfl k (by omega), hck]
        generalize (if c.toNat = 224 then 160 else if c.toNat = 240 then 144 else 128) = lo
        generalize (if c.toNat = 237 then 159 else if c.toNat = 244 then 143 else 191) = hi
        generalize ((c :: t).getD 1 0).toNat = b1
        generalize ((c :: t).getD 2 0).toNat = b2
        generalize ((c :: t).getD 3 0).toNat = b3
        generalize (c :: t).length = len at hl
        congr 1
        unfold checkN
        rcases hn3 with rfl | rfl | rfl
        · rw [if_pos rfl]
          by_cases g : b1 < lo ∨ hi < b1
          · rw [if_pos g, if_pos (Or.inr g)]
          · rw [if_neg g, if_neg (by omega), if_neg (by omega), if_neg (by omega)]
        · rw [if_neg (show ¬ (3 = 2) by omega), if_pos rfl]
          by_cases g : b1 < lo ∨ hi < b1
          · rw [if_pos g, if_pos (by omega)]
          · rw [if_neg g]
            by_cases g2 : b2 < 128 ∨ 191 < b2
            · rw [if_pos ⟨by omega, g2⟩, if_pos (by omega)]
            · rw [if_neg (fun e => g2 e.2), if_neg (by omega), if_neg (by omega)]
        · rw [if_neg (show ¬ (4 = 2) by omega), if_neg (show ¬ (4 = 3) by omega), if_pos rfl]
          by_cases g : b1 < lo ∨ hi < b1
          · rw [if_pos g, if_pos (by omega)]
          · rw [if_neg g]
            by_cases g2 : b2 < 128 ∨ 191 < b2
            · rw [if_pos ⟨by omega, g2⟩, if_pos (by omega)]
            · rw [if_neg (fun e => g2 e.2)]
              by_cases g3 : b3 < 128 ∨ 191 < b3
              · rw [if_pos ⟨by omega, g3⟩, if_pos (by omega)]
              · rw [if_neg (fun e => g3 e.2), if_neg (by omega)]
    · have e1 := tb.2 (by omega)
      have hck : chkL (c :: t) = none := by
        unfold chkL checkN
        rw [List.getD_cons_zero, e1]; rfl
      rw [hck]
      by_cases h194 : c.toNat < 194
      · rw [if_neg (by omega)]
        obtain ⟨k, rfl⟩ : ∃ m, k = m + 1 := ⟨k - 1, by omega⟩
        simp only [partitaref06_Rune.j0, partitaref06_Rune.j1, partitaref06_Rune.j2, partitaref06_Rune.j3, partitaref06_Rune.j4, partitaref06_Rune.j5, partitaref06_Rune.j6]
        rw [if_neg (by simp), if_neg (by omega), if_neg (by simp), if_neg (by omega), if_neg (by simp), if_pos trivial, if_pos trivial]
      · rw [if_pos (by omega), decide_eq_false (by omega)]
        obtain ⟨k, rfl⟩ : ∃ m, k = m + 1 := ⟨k - 1, by omega⟩
        simp only [partitaref06_Rune.j0, partitaref06_Rune.j1, partitaref06_Rune.j2, partitaref06_Rune.j3, partitaref06_Rune.j4, partitaref06_Rune.j5, partitaref06_Rune.j6]
        rw [if_neg (by simp), if_pos (by omega), decide_eq_false (by omega), if_neg (by simp), if_pos (by omega), decide_eq_false (by omega), if_neg (by simp), if_pos trivial, if_pos trivial]
theorem inside_l0 (s : ByteArray) (hs : s.size ≤ 1000000000000) : ∀ (d i k : Nat), s.size - i = d → i ≤ s.size → d + 30 ≤ k → partitaref18_Inside.l0 k s (i : Int) = some (vd (s.data.toList.drop i)) := by
  intro d
  induction d using Nat.strongRecOn with
  | ind d ih =>
    intro i k hd hi hk
    obtain ⟨k, rfl⟩ : ∃ m, k = m + 1 := ⟨k - 1, by omega⟩
    simp only [partitaref18_Inside.l0]
    by_cases h : i < s.size
    · have he : s.extract i s.size = ⟨(s[i] :: s.data.toList.drop (i + 1)).toArray⟩ := by
        have := ext_eq s i (s.size - i)
        rwa [show i + (s.size - i) = s.size by omega, List.take_of_length_le (by rw [List.length_drop, size_list]; omega), drop_cons s i h] at this
      have hb := bt_list s i h
      rw [if_pos (show (i : Int) < (s.size : Int) by omega), if_pos (by omega), if_pos (by omega), Int.toNat_natCast, he, rune_f _ _ k (by omega), hb, drop_cons s i h]
      simp only [Option.bind_some]
      by_cases ha : s[i].toNat < 128
      · rw [if_pos ha, if_neg (by omega), vd_asc _ _ ha]
        unfold oddR
        have ih1 := ih (d - 1) (by omega) (i + 1) k (by omega) (by omega) (by omega)
        by_cases h1 : s[i].toNat = 127
        · rw [if_pos (by omega), decide_eq_true (by omega)]; rfl
        · rw [if_neg (by omega)]
          by_cases h2 : s[i].toNat < 32
          · rw [if_pos (by omega)]
            by_cases h3 : s[i].toNat = 10
            · rw [if_pos (by omega), w64 (by omega), decide_eq_false (by omega)]; exact ih1
            · rw [if_neg (by omega)]
              by_cases h4 : s[i].toNat = 9
              · rw [if_pos (by omega), w64 (by omega), decide_eq_false (by omega)]; exact ih1
              · rw [if_neg (by omega), decide_eq_true (by omega)]; rfl
          · rw [if_neg (by omega), w64 (by omega), decide_eq_false (by omega)]; exact ih1
      · rw [if_neg ha]
        cases hck : chkL (s[i] :: s.data.toList.drop (i + 1)) with
        | none => rw [vd_none _ _ ha hck]; rfl
        | some n =>
          obtain ⟨g1, g2, g3, _⟩ := chk_range _ _ hck
          rw [List.length_cons, List.length_drop, size_list] at g3
          rw [vd_some _ _ n ha hck]
          simp only []
          rw [if_neg (by omega), if_neg (by omega), if_neg (by omega), w64 (by omega), List.drop_drop]
          have := ih (d - n) (by omega) (i + n) k (by omega) (by omega) (by omega)
          rw [show i + 1 + (n - 1) = i + n by omega, ← this]
          rfl
    · rw [if_neg (by omega), List.drop_of_length_le (by rw [size_list]; omega), vd_nil]
theorem inside_f (s : ByteArray) (hs : s.size ≤ 1000000000000) (k : Nat) (hk : s.size + 30 ≤ k) : partitaref18_Inside.f k s = some (insB s) := by
  rw [insB_vd]
  exact inside_l0 s hs s.size 0 k (by omega) (by omega) hk
end Go.Proofs.YtllccnijipgncaaDoor.Q
