/- The document's pieces of a text are the program's. No conditions. -/
import Derived.Test.YtllccnijipgncaaDoorLex8
import Derived.Test.YtllccnijipgncaaDoorQ11
namespace Go.Proofs.YtllccnijipgncaaDoor.Q
open Go.RowKit Go.Shelf Go.Proofs.YtllccnijipgncaaDoorW.PrintWords
set_option linter.unusedVariables false
theorem stands_f (d : UInt8) (k : Nat) (hk : 1 ≤ k) : partitaref18_stands.f k (d.toNat : Int) = some (match escB d with | none => 0 | some x => (x.toNat : Int)) := by
  obtain ⟨k, rfl⟩ : ∃ m, k = m + 1 := ⟨k - 1, by omega⟩
  unfold partitaref18_stands.f escB
  by_cases h1 : d.toNat = 34
  · rw [if_pos (by omega), if_pos h1, show ((d.toNat : Int) == 34) = true by simp; omega]
    simp only [partitaref18_stands.j0, if_true]
    rw [h1]; rfl
  · rw [if_neg (by omega), if_neg h1]
    by_cases h2 : d.toNat = 92
    · rw [if_pos h2, show ((d.toNat : Int) == 92) = true by simp; omega]
      simp only [partitaref18_stands.j0, if_true]
      rw [h2]; rfl
    · rw [if_neg h2, show ((d.toNat : Int) == 92) = false by simp; omega]
      simp only [partitaref18_stands.j0]
      rw [if_neg (by simp)]
      by_cases h3 : d.toNat = 110
      · rw [if_pos (by omega), if_pos h3]; rfl
      · rw [if_neg (by omega), if_neg h3]
        by_cases h4 : d.toNat = 116
        · rw [if_pos (by omega), if_pos h4]; rfl
        · rw [if_neg (by omega), if_neg h4]
def resR (a : Nat) : Option (List UInt8 × Nat) → ByteArray × Int
  | none => (⟨#[]⟩, 0)
  | some (x, n) => (⟨x.toArray⟩, ((a + n : Nat) : Int))
theorem esc_ne0 {d x : UInt8} (h : escB d = some x) : x.toNat ≠ 0 := by
  unfold escB at h
  (repeat' split at h) <;> first | (obtain rfl := Option.some.inj h; decide) | cases h
theorem quoted_l0 (s : ByteArray) (hs : s.size ≤ 1000000000000) (a : Nat) : ∀ (d i k : Nat) (acc : List UInt8), s.size - i = d → i ≤ s.size → a ≤ i → 2 * d + s.size + 40 ≤ k → acc.length ≤ i →
    partitaref18_quoted.l0 k s (numsOf acc) (i : Int) = some (resR a (qtd (s.data.toList.drop i) acc (i - a))) := by
  intro d
  induction d using Nat.strongRecOn with
  | ind d ih =>
    intro i k acc hd hi hai hk ha
    obtain ⟨k, rfl⟩ : ∃ m, k = m + 2 := ⟨k - 2, by omega⟩
    have hn := nums_len acc
    simp only [partitaref18_quoted.l0]
    by_cases h : i < s.size
    · have hb := bt_list s i h
      rw [if_pos (show (i : Int) < (s.size : Int) by omega), if_pos (by omega), hb, drop_cons s i h]
      unfold qtd
      by_cases h34 : s[i].toNat = 34
      · rw [show ((s[i].toNat : Int) != 34) = false by simp; omega, if_neg (by omega), if_pos h34]
        simp only [partitaref18_quoted.j1]
        have hz := size_mk acc
        rw [if_neg (by simp), if_neg (by omega), str_nums, inside_f _ (by rw [hz]; omega) k (by rw [hz]; omega)]
        simp only [Option.bind_some]
        rw [show insB ⟨acc.toArray⟩ = insL acc from rfl]
        cases insL acc with
        | true => rw [if_pos rfl, if_pos rfl, w64 (by omega)]; unfold resR; congr 2; omega
        | false => rfl
      · rw [show ((s[i].toNat : Int) != 34) = true by simp; omega]
        simp only [partitaref18_quoted.j1]
        rw [if_pos trivial, if_pos (by omega), if_pos (show (i : Int) < (s.size : Int) by omega), hb]
        by_cases h32 : s[i].toNat < 32
        · rw [if_pos (by omega), if_pos h32]; rfl
        · rw [if_neg (by omega), if_neg h32, if_neg h34]
          by_cases h92 : s[i].toNat = 92
          · rw [if_pos (by omega), if_neg (show ¬ (s[i].toNat ≠ 92) by omega), w64 (by omega)]
            by_cases h1 : i + 1 < s.size
            · have hb1 : bt s ((i : Int) + 1) = (s[i + 1].toNat : Int) := bt_list s (i + 1) h1
              rw [if_neg (by omega), if_pos (by omega), if_pos (by omega), hb1, stands_f _ k (by omega), drop_cons s (i + 1) h1]
              simp only [Option.bind_some]
              cases he : escB s[i + 1] with
              | none => rfl
              | some x =>
                have hx := esc_ne0 he
                simp only []
                rw [if_neg (by omega), if_pos (by omega), w64 (by omega)]
                have g := ih (d - 2) (by omega) (i + 2) k (acc ++ [x]) (by omega) (by omega) (by omega) (by omega) (by simp; omega)
                rw [nums_app, show i + 2 - a = i - a + 2 by omega] at g
                exact g
            · rw [if_pos (by omega), List.drop_of_length_le (by rw [size_list]; omega)]; rfl
          · rw [if_neg (by omega), if_pos h92, if_pos (by omega), w64 (by omega)]
            have g := ih (d - 1) (by omega) (i + 1) k (acc ++ [s[i]]) (by omega) (by omega) (by omega) (by omega) (by simp; omega)
            rw [nums_app, show i + 1 - a = i - a + 1 by omega] at g
            exact g
    · rw [if_neg (by omega), List.drop_of_length_le (by rw [size_list]; omega)]
      simp only [partitaref18_quoted.j1]
      rw [if_neg (by simp), if_pos (by omega)]
      rfl
def wrdL : List UInt8 → Bool
  | [] => false
  | c :: t => letB c && (c :: t).all innB
theorem word_w (l : List UInt8) (hs : l.length ≤ 1000000000000) (k : Nat) (hk : l.length + 3 ≤ k) : partitaref18_word.f k ⟨l.toArray⟩ = some (wrdL l) := by
  rw [word_f l hs k hk]; cases l <;> rfl
theorem word_loop (s : ByteArray) (hs : s.size ≤ 1000000000000) (a : Nat) (ha : a < s.size) (hl : letB s[a] = true) : ∀ (d i k : Nat), s.size - i = d → i ≤ s.size → a < i → d + s.size + 10 ≤ k → i ≤ a + runL innB s.data.toList a →
    partitaref18_piece.l0 k s (a : Int) (i : Int) = some (1, ⟨((s.data.toList.drop a).takeWhile innB).toArray⟩, (a : Int), ((a + runL innB s.data.toList a : Nat) : Int)) := by
  have hle := runL_le innB s.data.toList a (by rw [size_list]; omega)
  rw [size_list] at hle
  have hfin : s.extract a (a + runL innB s.data.toList a) = ⟨((s.data.toList.drop a).takeWhile innB).toArray⟩ := by rw [ext_eq]; unfold runL; rw [take_while]
  intro d
  induction d with
  | zero =>
    intro i k hd hi hai hk hir
    obtain ⟨k, rfl⟩ : ∃ m, k = m + 1 := ⟨k - 1, by omega⟩
    simp only [partitaref18_piece.l0]
    obtain rfl : i = a + runL innB s.data.toList a := by omega
    rw [if_neg (by omega), if_pos (by omega), if_pos (by omega), if_pos (by omega), Int.toNat_natCast, Int.toNat_natCast, hfin]
  | succ d ih =>
    intro i k hd hi hai hk hir
    obtain ⟨k, rfl⟩ : ∃ m, k = m + 1 := ⟨k - 1, by omega⟩
    have h : i < s.size := by omega
    obtain ⟨j, rfl⟩ : ∃ j, i = a + j := ⟨i - a, by omega⟩
    simp only [partitaref18_piece.l0]
    rw [if_pos (by omega), if_pos (by omega), w64 (by omega), if_pos (by omega), if_pos (by omega), Int.toNat_natCast, show (((a + j : Nat) : Int) + 1).toNat = a + (j + 1) by omega, ext_eq]
    have hlen : ((s.data.toList.drop a).take (j + 1)).length = j + 1 := by rw [List.length_take, List.length_drop, size_list]; omega
    rw [word_w _ (by rw [hlen]; omega) k (by rw [hlen]; omega)]
    simp only [Option.bind_some]
    have hhead : wrdL ((s.data.toList.drop a).take (j + 1)) = ((s.data.toList.drop a).take (j + 1)).all innB := by
      rw [drop_cons s a ha, List.take_succ_cons]
      simp only [wrdL, hl, Bool.true_and]
    rw [hhead]
    by_cases hj : j < runL innB s.data.toList a
    · have hall : ((s.data.toList.drop a).take (j + 1)).all innB = true := by
        have h1 := all_while innB (s.data.toList.drop a)
        rw [← take_while] at h1
        have h2 : (s.data.toList.drop a).take (j + 1) = ((s.data.toList.drop a).take ((s.data.toList.drop a).takeWhile innB).length).take (j + 1) := by
          rw [List.take_take, Nat.min_eq_left (by unfold runL at hj; omega)]
        rw [h2, List.all_eq_true]
        rw [List.all_eq_true] at h1
        exact fun x hx => h1 x (List.mem_of_mem_take hx)
      rw [hall, if_pos rfl]
      exact ih (a + j + 1) k (by omega) (by omega) (by omega) (by omega) (by omega)
    · obtain rfl : j = runL innB s.data.toList a := by omega
      have hall : ((s.data.toList.drop a).take (runL innB s.data.toList a + 1)).all innB = false := by
        rw [Bool.eq_false_iff]
        intro hc
        have hr := (run_all innB _).2 hc
        rw [hlen] at hr
        unfold runL at hr
        rw [List.drop_zero] at hr
        have h3 : (((s.data.toList.drop a).take (((s.data.toList.drop a).takeWhile innB).length + 1)).takeWhile innB) = (s.data.toList.drop a).takeWhile innB := while_take innB _ _ (by omega)
        rw [h3] at hr
        omega
      rw [hall, if_neg (by simp), if_pos (by omega), if_pos (by omega), Int.toNat_natCast, hfin]
theorem ref_piece (s : ByteArray) (hs : s.size ≤ 1000000000000) (a : Nat) (ha : a < s.size) (k : Nat) (hk : 3 * s.size + 100 ≤ k) :
    ∃ R, partitaref18_piece.f k s (a : Int) = some R ∧ ((pcT (s.data.toList.drop a)).2.2 = 0 → R.2.2.2 = 0) ∧ (∀ kd st n, pcT (s.data.toList.drop a) = (kd, st, n + 1) → R = (kd, ⟨st.toArray⟩, (a : Int), ((a + (n + 1) : Nat) : Int))) := by
  have hb := bt_list s a ha
  have hle := runL_le innB s.data.toList a (by rw [size_list]; omega)
  have hld := runL_le digB s.data.toList (a + 1) (by rw [size_list]; omega)
  rw [size_list] at hle hld
  have hdl : ∀ i : Nat, i ≤ s.size → partitaref18_digits.f k s (i : Int) = some (((i + runL digB s.data.toList i : Nat)) : Int) := fun i hi => digits_l0 s hs (s.size - i) i k rfl hi (by omega)
  have hstep := runL_step digB s.data.toList a (by rw [size_list]; exact ha)
  rw [show s.data.toList[a]'(by rw [size_list]; exact ha) = s[a] from rfl] at hstep
  unfold partitaref18_piece.f
  rw [if_pos (by omega), if_pos (show (a : Int) < (s.size : Int) by omega), hb, drop_cons s a ha]
  unfold pcT
  dsimp only
  by_cases h34 : s[a].toNat = 34
  · rw [if_pos (by omega), if_neg (by unfold letB; rw [decide_eq_true_iff]; omega), if_neg (by unfold digB; rw [decide_eq_true_iff]; omega), if_pos h34]
    unfold partitaref18_quoted.f
    rw [w64 (by omega)]
    have g := quoted_l0 s hs a (s.size - (a + 1)) (a + 1) k [] rfl (by omega) (by omega) (by omega) (by simp)
    rw [show a + 1 - a = 1 by omega] at g
    have g' : partitaref18_quoted.l0 k s ([] : List Int) ((a : Int) + 1) = _ := g
    rw [g']
    simp only [Option.bind_some]
    cases hq : qtd (s.data.toList.drop (a + 1)) [] 1 with
    | none => exact ⟨_, rfl, fun _ => rfl, fun kd st n h => by have := (trip h).2.2; omega⟩
    | some x =>
      obtain ⟨x, m⟩ := x
      have := qtd_le _ _ _ _ _ hq
      exact ⟨_, rfl, fun h => by simp only [] at h; omega, fun kd st n h => by
        obtain ⟨rfl, rfl, rfl⟩ := trip h; rfl⟩
  · rw [if_neg (by omega), ref_letter]
    simp only [Option.bind_some]
    cases hl : letB s[a] with
    | true =>
      rw [if_pos rfl, if_pos rfl, w64 (by omega)]
      have hw : 1 ≤ runL innB s.data.toList a := by
        rw [runL_step innB _ a (by rw [size_list]; exact ha), show s.data.toList[a]'(by rw [size_list]; exact ha) = s[a] from rfl, if_pos (by unfold innB; rw [hl]; rfl)]; omega
      have g := word_loop s hs a ha hl (s.size - (a + 1)) (a + 1) k rfl (by omega) (by omega) (by omega) (by omega)
      have g' : partitaref18_piece.l0 k s (a : Int) ((a : Int) + 1) = _ := g
      rw [g']
      have hr : runL innB s.data.toList a = ((s[a] :: s.data.toList.drop (a + 1)).takeWhile innB).length := by unfold runL; rw [drop_cons s a ha]
      refine ⟨_, rfl, fun h => by simp only [] at h; omega, fun kd st n h => ?_⟩
      obtain ⟨rfl, rfl, h3⟩ := trip h
      rw [drop_cons s a ha, hr, h3]
    | false =>
      rw [if_neg (show ¬ (false = true) by simp), if_neg (show ¬ (false = true) by simp), hdl a (by omega), hstep]
      simp only [Option.bind_some]
      obtain ⟨N, hN⟩ : ∃ N, runL digB s.data.toList (a + 1) = N := ⟨_, rfl⟩
      have hNt : ((s.data.toList.drop (a + 1)).takeWhile digB).length = N := hN
      rw [hN] at hld hstep ⊢
      obtain ⟨k, rfl⟩ : ∃ m, k = m + 2 := ⟨k - 2, by omega⟩
      have num : ∀ T : Nat, T = a + (1 + N) → partitaref18_piece.j2 (k + 1) s (a : Int) (s[a].toNat : Int) (T : Int) true = some (if whoL (s[a] :: (s.data.toList.drop (a + 1)).takeWhile digB) = true then (2, ⟨(s[a] :: (s.data.toList.drop (a + 1)).takeWhile digB).toArray⟩, (a : Int), (T : Int)) else (0, ⟨#[]⟩, 0, 0)) := by
        intro T hT
        simp only [partitaref18_piece.j2]
        have he : s.extract a (a + (1 + N)) = ⟨(s[a] :: (s.data.toList.drop (a + 1)).takeWhile digB).toArray⟩ := by
          rw [ext_eq, drop_cons s a ha, Nat.add_comm 1, List.take_succ_cons, ← hNt, take_while]
        rw [if_pos trivial, if_pos (by omega), if_pos (by omega), if_pos (by omega), Int.toNat_natCast, Int.toNat_natCast, hT, he, number_f _ (by rw [List.length_cons, hNt]; omega) k (by rw [List.length_cons, hNt]; omega)]
        simp only [Option.bind_some]
        split <;> rfl
      have numend : ∀ T : Nat, T = a + (1 + N) → ∃ R, partitaref18_piece.j2 (k + 1) s (a : Int) (s[a].toNat : Int) (T : Int) true = some R ∧ ((if whoL (s[a] :: (s.data.toList.drop (a + 1)).takeWhile digB) = true then ((2 : Int), s[a] :: (s.data.toList.drop (a + 1)).takeWhile digB, ((s.data.toList.drop (a + 1)).takeWhile digB).length + 1) else (2, [], 0)).2.2 = 0 → R.2.2.2 = 0) ∧ (∀ kd st n, (if whoL (s[a] :: (s.data.toList.drop (a + 1)).takeWhile digB) = true then ((2 : Int), s[a] :: (s.data.toList.drop (a + 1)).takeWhile digB, ((s.data.toList.drop (a + 1)).takeWhile digB).length + 1) else (2, [], 0)) = (kd, st, n + 1) → R = (kd, ⟨st.toArray⟩, (a : Int), ((a + (n + 1) : Nat) : Int))) := by
        intro T hT
        refine ⟨_, num T hT, ?_, ?_⟩
        · split
          · intro h; simp at h
          · intro _; rfl
        · intro kd st n h
          split at h
          · rename_i hw
            obtain ⟨rfl, rfl, h3⟩ := trip h
            rw [if_pos hw, hT]
            congr 3
            omega
          · have := (trip h).2.2; omega
      have sg : ∀ T : Int, ∃ R, partitaref18_piece.j2 (k + 1) s (a : Int) (s[a].toNat : Int) T false = some R ∧ ((if s[a].toNat = 10 then ((5 : Int), [s[a]], 1) else if sgB s[a] = true then (4, [s[a]], 1) else (0, [], 0)).2.2 = 0 → R.2.2.2 = 0) ∧ (∀ kd st n, (if s[a].toNat = 10 then ((5 : Int), [s[a]], 1) else if sgB s[a] = true then (4, [s[a]], 1) else (0, [], 0)) = (kd, st, n + 1) → R = (kd, ⟨st.toArray⟩, (a : Int), ((a + (n + 1) : Nat) : Int))) := by
        intro T
        simp only [partitaref18_piece.j2]
        rw [if_neg (show ¬ (false = true) by simp)]
        by_cases h10 : s[a].toNat = 10
        · rw [if_pos (by omega), if_pos h10, w64 (by omega)]
          refine ⟨_, rfl, fun h => by simp at h, fun kd st n h => ?_⟩
          obtain ⟨rfl, rfl, h3⟩ := trip h
          obtain rfl : n = 0 := by omega
          rw [show s[a] = 10 from UInt8.toNat_inj.1 h10]; rfl
        · rw [if_neg (by omega), if_neg h10, ref_sign, w64 (by omega)]
          simp only [Option.bind_some]
          cases sgB s[a] with
          | true =>
            have he : s.extract a (a + 1) = ⟨[s[a]].toArray⟩ := by rw [ext_eq, drop_cons s a ha]; rfl
            rw [if_pos rfl, if_pos (by omega), if_pos (by omega), if_pos (by omega), Int.toNat_natCast, show ((a : Int) + 1).toNat = a + 1 by omega, he]
            refine ⟨_, rfl, fun h => by simp at h, fun kd st n h => ?_⟩
            obtain ⟨rfl, rfl, h3⟩ := trip h
            obtain rfl : n = 0 := by omega
            rfl
          | false =>
            rw [if_neg (show ¬ (false = true) by simp), if_neg (show ¬ (false = true) by simp)]
            exact ⟨_, rfl, fun _ => rfl, fun kd st n h => by have := (trip h).2.2; omega⟩
      rw [if_neg h34]
      by_cases h45 : s[a].toNat = 45
      · have hd0 : digB s[a] = false := by unfold digB; rw [decide_eq_false_iff_not]; omega
        have g' : partitaref18_digits.f (k + 2) s (wrap64 ((a : Int) + 1)) = some (((a + 1 + N : Nat)) : Int) := by
          rw [w64 (by omega), ← hN]; exact hdl (a + 1) (by omega)
        rw [if_pos (by omega), g', hd0]
        simp only [Option.bind_some, partitaref18_piece.j1]
        rw [if_pos (by omega), if_pos (by omega), w64 (by omega)]
        by_cases hN0 : 0 < N
        · rw [decide_eq_true (by omega), if_pos (Or.inr ⟨h45, by omega⟩)]
          exact numend (a + 1 + N) (by omega)
        · rw [decide_eq_false (by omega), if_neg (fun h => h.elim (fun h => by cases h) (fun h => by omega))]
          exact sg _
      · rw [if_neg (by omega)]
        simp only [partitaref18_piece.j1]
        cases hd : digB s[a] with
        | true =>
          rw [if_pos rfl, if_pos (by omega), if_neg (by omega), if_pos (Or.inl rfl)]
          exact numend (a + (N + 1)) (by omega)
        | false =>
          rw [if_neg (show ¬ (false = true) by simp), if_neg (by omega), if_neg (fun h => h.elim (fun h => by cases h) (fun h => h45 h.1))]
          exact sg _
theorem rem_l1 (s : ByteArray) (hs : s.size ≤ 1000000000000) (out : List S35) (R : List S35 × Int × Int) (K0 : Nat) : ∀ (d i k : Nat), s.size - i = d → i ≤ s.size → K0 + runL linB s.data.toList i + 1 ≤ k → (∀ k', K0 ≤ k' → partitaref18_Tokens.l0 k' s out ((i + runL linB s.data.toList i : Nat) : Int) = some R) → partitaref18_Tokens.l1 k s out (i : Int) = some R := by
  intro d
  induction d with
  | zero =>
    intro i k hd hi hk h0
    obtain ⟨k, rfl⟩ : ∃ m, k = m + 1 := ⟨k - 1, by omega⟩
    simp only [partitaref18_Tokens.l1]
    rw [if_neg (by omega)]
    rw [runL_none _ _ _ (by rw [size_list]; omega)] at h0
    exact h0 k (by omega)
  | succ d ih =>
    intro i k hd hi hk h0
    obtain ⟨k, rfl⟩ : ∃ m, k = m + 1 := ⟨k - 1, by omega⟩
    have h : i < s.size := by omega
    simp only [partitaref18_Tokens.l1]
    rw [if_pos (show (i : Int) < (s.size : Int) by omega), if_pos (by omega), bt_list s i h]
    rw [runL_step linB _ i (by rw [size_list]; exact h), show s.data.toList[i]'(by rw [size_list]; exact h) = s[i] from rfl] at h0 hk
    by_cases h10 : s[i].toNat = 10
    · rw [if_pos (by omega)]
      rw [show linB s[i] = false by unfold linB; rw [decide_eq_false_iff_not]; omega, if_neg (by simp)] at h0 hk
      exact h0 k (by omega)
    · rw [if_neg (by omega), w64 (by omega)]
      rw [show linB s[i] = true by unfold linB; rw [decide_eq_true_iff]; omega, if_pos rfl] at h0 hk
      refine ih (i + 1) k (by omega) (by omega) (by omega) (fun k' hk' => ?_)
      have := h0 k' hk'
      rw [show i + (runL linB s.data.toList (i + 1) + 1) = i + 1 + runL linB s.data.toList (i + 1) by omega] at this
      exact this
theorem ref_step (k : Nat) (s : ByteArray) (out : List S35) (a : Nat) (h : a < s.size) : partitaref18_Tokens.l0 (k + 2) s out (a : Int) =
    if blkB s[a] then partitaref18_Tokens.l0 k s out (wrap64 ((a : Int) + 1))
    else if s[a].toNat = 35 then partitaref18_Tokens.l1 k s out (a : Int)
    else ((partitaref18_piece.f k s (a : Int)).bind fun b => (if b.2.2.2 = 0 then (some (([] : List S35), (a : Int), 180)) else (if out.length < 4398046511104 then (partitaref18_Tokens.l0 k s (out ++ [(⟨b.1, b.2.1, b.2.2.1⟩ : S35)]) b.2.2.2) else none))) := by
  have hb := bt_list s a h
  simp only [partitaref18_Tokens.l0]
  rw [if_pos (show (a : Int) < (s.size : Int) by omega), if_pos (show (0 : Int) ≤ (a : Int) by omega), hb]
  by_cases h1 : s[a].toNat = 32
  · rw [if_pos (show (s[a].toNat : Int) = 32 by omega), if_pos (show blkB s[a] from Or.inl h1)]
    simp only [partitaref18_Tokens.j1, if_true]
  · rw [if_neg (show ¬ (s[a].toNat : Int) = 32 by omega)]
    by_cases h2 : s[a].toNat = 9
    · rw [if_pos (show (s[a].toNat : Int) = 9 by omega), if_pos (show blkB s[a] from Or.inr (Or.inl h2))]
      simp only [partitaref18_Tokens.j1, if_true]
    · rw [if_neg (show ¬ (s[a].toNat : Int) = 9 by omega)]
      by_cases h3 : s[a].toNat = 13
      · rw [show ((s[a].toNat : Int) == 13) = true by simp; omega, if_pos (show blkB s[a] from Or.inr (Or.inr h3))]
        simp only [partitaref18_Tokens.j1, if_true]
      · rw [show ((s[a].toNat : Int) == 13) = false by simp; omega, if_neg (show ¬ blkB s[a] by unfold blkB; omega)]
        simp only [partitaref18_Tokens.j1]
        rw [if_neg (by simp), if_pos (by omega), if_pos (show (a : Int) < (s.size : Int) by omega), hb]
        by_cases h4 : s[a].toNat = 35
        · rw [if_pos (show (s[a].toNat : Int) = 35 by omega), if_pos h4]
        · rw [if_neg (show ¬ (s[a].toNat : Int) = 35 by omega), if_neg h4]
theorem ref_l0 (s : ByteArray) (hs : s.size ≤ 1000000000000) : ∀ (d a : Nat) (k : Nat) (out : List S35), s.size - a = d → a ≤ s.size → out.length ≤ a → 4 * d + 4 * s.size + 200 ≤ k → partitaref18_Tokens.l0 k s out (a : Int) = some (resT out (tkL (s.data.toList.drop a) a)) := by
  intro d
  induction d using Nat.strongRecOn with
  | ind d ih =>
    intro a k out hd ha hout hk
    by_cases h : a < s.size
    · obtain ⟨k, rfl⟩ : ∃ m, k = m + 2 := ⟨k - 2, by omega⟩
      rw [ref_step k s out a h, drop_cons s a h]
      have hdl : (s.data.toList.drop (a + 1)).length = s.size - (a + 1) := by rw [List.length_drop, size_list]
      by_cases h1 : blkB s[a]
      · rw [if_pos h1, tkL_blk _ _ _ h1, w64 (by omega)]
        exact ih (d - 1) (by omega) (a + 1) k out (by omega) (by omega) (by omega) (by omega)
      · rw [if_neg h1]
        by_cases h2 : s[a].toNat = 35
        · rw [if_pos h2, tkL_rem _ _ _ h2]
          have hw := while_le linB (s.data.toList.drop (a + 1))
          have hrun : runL linB s.data.toList a = 1 + ((s.data.toList.drop (a + 1)).takeWhile linB).length := by
            rw [runL_step linB _ a (by rw [size_list]; exact h), if_pos (by
              show linB s[a] = true
              unfold linB; rw [decide_eq_true_iff]; omega)]
            unfold runL; omega
          generalize hW : ((s.data.toList.drop (a + 1)).takeWhile linB).length = W at hw hrun ⊢
          refine rem_l1 s hs out _ (4 * (d - 1 - W) + 4 * s.size + 200) d a k hd ha (by omega) (fun k' hk' => ?_)
          rw [hrun, List.drop_drop, show a + (1 + W) = a + 1 + W by omega]
          exact ih (d - 1 - W) (by omega) (a + 1 + W) k' out (by omega) (by omega) (by omega) hk'
        · rw [if_neg h2]
          obtain ⟨R, hR, hR0, hR1⟩ := ref_piece s hs a h k (by omega)
          rw [hR]
          simp only [Option.bind_some]
          have hle := pcT_le (s[a] :: s.data.toList.drop (a + 1))
          rw [List.length_cons, hdl] at hle
          rw [drop_cons s a h] at hR0 hR1
          obtain ⟨⟨kd, st, n⟩, hp⟩ : ∃ x, pcT (s[a] :: s.data.toList.drop (a + 1)) = x := ⟨_, rfl⟩
          rw [hp] at hle hR0
          simp only [] at hle
          cases n with
          | zero =>
            rw [if_pos (hR0 rfl), tkL_bad _ _ _ h1 h2 (by rw [hp])]
            rfl
          | succ n =>
            obtain rfl := hR1 kd st n hp
            simp only []
            rw [if_neg (by omega), if_pos (by omega), tkL_one _ _ _ 0 n kd st h1 h2 hp]
            have := ih (d - (n + 1)) (by omega) (a + (n + 1)) k (out ++ [⟨kd, ⟨st.toArray⟩, (a : Int)⟩]) (by omega) (by omega) (by simp; omega) (by omega)
            rw [List.drop_drop, show a + 1 + n = a + (n + 1) by omega]
            refine this.trans ?_
            unfold resT
            cases (tkL (List.drop (a + (n + 1)) s.data.toList) (a + (n + 1))).2 with
            | none => simp
            | some p => rfl
    · obtain ⟨k, rfl⟩ : ∃ m, k = m + 1 := ⟨k - 1, by omega⟩
      simp only [partitaref18_Tokens.l0]
      rw [if_neg (by omega), List.drop_of_length_le (by rw [size_list]; omega), tkL_nil]
      simp [resT]
theorem ref_tokens (s : ByteArray) (hs : s.size ≤ 1000000000000) (k : Nat) (hk : 8 * s.size + 200 ≤ k) : partitaref18_Tokens.f k s = some (resT [] (tkL s.data.toList 0)) :=
  ref_l0 s hs s.size 0 k [] (by omega) (by omega) (by simp) (by omega)
end Go.Proofs.YtllccnijipgncaaDoor.Q
