/- The document's right pieces, quotes and prints are the program's. No conditions. -/
import Derived.Test.YtllccnijipgncaaDoorLex6
import Derived.Test.YtllccnijipgncaaDoorLex7
import Derived.Test.YtllccnijipgncaaDoorQ13
import Derived.Test.YtllccnijipgncaaDoorQ14
namespace Go.Proofs.YtllccnijipgncaaDoor.Q
open Go.RowKit Go.Shelf Go.Proofs.YtllccnijipgncaaDoorW.PrintWords
set_option linter.unusedVariables false
def numsOf (l : List UInt8) : List Int := l.map fun c => (c.toNat : Int)
theorem str_nums (l : List UInt8) : strOfNums (numsOf l) = ⟨l.toArray⟩ := by
  unfold strOfNums numsOf
  rw [List.map_map]
  congr 2
  conv => rhs; rw [← List.map_id l]
  apply List.map_congr_left
  intro c _
  simp [Function.comp]
theorem nums_len (l : List UInt8) : (numsOf l).length = l.length := List.length_map ..
theorem nums_app (a b : List UInt8) : numsOf (a ++ b) = numsOf a ++ numsOf b := List.map_append ..
theorem ref_letter (c : UInt8) : partitaref18_Letter.f (c.toNat : Int) = some (letB c) := letter_f c
theorem ref_digit (c : UInt8) : partitaref18_Digit.f (c.toNat : Int) = some (digB c) := digit_f c
theorem ref_sign (c : UInt8) : partitaref18_sign.f (c.toNat : Int) = some (sgB c) := by
  have : ∀ n : Fin 256, partitaref18_sign.f (n.val : Int) = some (sgB (UInt8.ofNat n.val)) := by decide +kernel
  have h := this ⟨c.toNat, c.toNat_lt⟩
  simpa using h
theorem word_l0 (s : ByteArray) (hs : s.size ≤ 1000000000000) : ∀ (d i k : Nat), s.size - i = d → i ≤ s.size → d + 1 ≤ k → partitaref18_word.l0 k s (i : Int) = some ((s.data.toList.drop i).all innB) := by
  intro d
  induction d with
  | zero =>
    intro i k hd hi hk
    obtain ⟨k, rfl⟩ : ∃ m, k = m + 1 := ⟨k - 1, by omega⟩
    simp only [partitaref18_word.l0]
    rw [if_neg (by omega), List.drop_of_length_le (by rw [size_list]; omega)]; rfl
  | succ d ih =>
    intro i k hd hi hk
    obtain ⟨k, rfl⟩ : ∃ m, k = m + 1 := ⟨k - 1, by omega⟩
    have h : i < s.size := by omega
    simp only [partitaref18_word.l0]
    rw [if_pos (show (i : Int) < (s.size : Int) by omega), if_pos (by omega), bt_list s i h, ref_letter, drop_cons s i h, List.all_cons, w64 (by omega)]
    have := ih (i + 1) k (by omega) (by omega) (by omega)
    have this' : partitaref18_word.l0 k s ((i : Int) + 1) = some ((s.data.toList.drop (i + 1)).all innB) := this
    rw [this', ref_digit]
    simp only [Option.bind_some]
    unfold innB
    cases letB s[i] with
    | true => simp
    | false =>
      cases digB s[i] with
      | true => simp
      | false =>
        rw [if_neg (by simp), if_neg (by simp)]
        by_cases h1 : s[i].toNat = 35
        · rw [if_pos (by omega), decide_eq_true (Or.inl h1)]; rfl
        · rw [if_neg (by omega)]
          by_cases h2 : s[i].toNat = 95
          · rw [if_pos (by omega), decide_eq_true (Or.inr h2)]; rfl
          · rw [if_neg (by omega), decide_eq_false (by omega)]; rfl
theorem word_f (l : List UInt8) (hs : l.length ≤ 1000000000000) (k : Nat) (hk : l.length + 3 ≤ k) : partitaref18_word.f k ⟨l.toArray⟩ = some (match l with | [] => false | c :: t => letB c && (c :: t).all innB) := by
  obtain ⟨k, rfl⟩ : ∃ m, k = m + 1 := ⟨k - 1, by omega⟩
  have hz := size_mk l
  unfold partitaref18_word.f
  cases l with
  | nil =>
    rw [if_pos (by rw [hz]; rfl)]
    simp only [partitaref18_word.j0]
    rfl
  | cons c t =>
    rw [List.length_cons] at hz hk
    rw [if_neg (by omega), if_pos (by omega), show bt ⟨(c :: t).toArray⟩ 0 = (c.toNat : Int) from bt_list ⟨(c :: t).toArray⟩ 0 (by omega), ref_letter]
    simp only [Option.bind_some, partitaref18_word.j0]
    cases letB c with
    | false => rfl
    | true =>
      rw [if_neg (by simp)]
      have := word_l0 ⟨(c :: t).toArray⟩ (by rw [hz]; rw [List.length_cons] at hs; exact hs) (t.length + 1) 0 k (by omega) (by omega) (by omega)
      exact this
theorem digits_l0 (s : ByteArray) (hs : s.size ≤ 1000000000000) : ∀ (d i k : Nat), s.size - i = d → i ≤ s.size → d + 1 ≤ k → partitaref18_digits.l0 k s (i : Int) = some (((i + runL digB s.data.toList i : Nat)) : Int) := by
  intro d
  induction d with
  | zero =>
    intro i k hd hi hk
    obtain ⟨k, rfl⟩ : ∃ m, k = m + 1 := ⟨k - 1, by omega⟩
    simp only [partitaref18_digits.l0]
    rw [if_neg (by omega), runL_none _ _ _ (by rw [size_list]; omega)]; rfl
  | succ d ih =>
    intro i k hd hi hk
    obtain ⟨k, rfl⟩ : ∃ m, k = m + 1 := ⟨k - 1, by omega⟩
    have h : i < s.size := by omega
    simp only [partitaref18_digits.l0]
    rw [if_pos (show (i : Int) < (s.size : Int) by omega), if_pos (by omega), bt_list s i h, ref_digit, w64 (by omega), runL_step digB _ i (by rw [size_list]; exact h)]
    have this' : partitaref18_digits.l0 k s ((i : Int) + 1) = some (((i + 1 + runL digB s.data.toList (i + 1) : Nat)) : Int) := ih (i + 1) k (by omega) (by omega) (by omega)
    rw [this']
    simp only [Option.bind_some]
    rw [show s.data.toList[i]'(by rw [size_list]; exact h) = s[i] from rfl]
    cases digB s[i] with
    | true => rw [if_pos rfl, if_pos rfl]; congr 2; omega
    | false => rw [if_neg (by simp), if_neg (by simp)]; rfl
theorem digits_f (l : List UInt8) (hs : l.length ≤ 1000000000000) (i k : Nat) (hi : i ≤ l.length) (hk : l.length + 1 ≤ k) : partitaref18_digits.f k ⟨l.toArray⟩ (i : Int) = some (((i + runL digB l i : Nat)) : Int) :=
  digits_l0 ⟨l.toArray⟩ (by rw [size_mk]; exact hs) (l.length - i) i k (by rw [size_mk]) (by rw [size_mk]; exact hi) (by omega)
theorem number_f (l : List UInt8) (hs : l.length ≤ 1000000000000) (k : Nat) (hk : l.length + 3 ≤ k) : partitaref18_number.f k ⟨l.toArray⟩ = some (whoL l) := by
  have hz := size_mk l
  unfold partitaref18_number.f
  rw [toList_data]
  show (if l = [48] then _ else _) = _
  by_cases h48 : l = [48]
  · rw [if_pos h48, h48]; rfl
  · rw [if_neg h48]
    cases l with
    | nil => rfl
    | cons c t =>
      have hzc := hz
      rw [List.length_cons] at hz hk
      have hb0 : bt ⟨(c :: t).toArray⟩ 0 = (c.toNat : Int) := bt_list ⟨(c :: t).toArray⟩ 0 (by omega)
      rw [if_pos (by omega), if_pos (by omega), hb0]
      have fin : ∀ (j : Nat) (u : List UInt8), (c :: t).drop j = u → j ≤ 1 → partitaref18_digits.f k ⟨(c :: t).toArray⟩ (j : Int) = some (((j + runL digB (c :: t) j : Nat)) : Int) ∧ ((((j + runL digB (c :: t) j : Nat) : Int) == (((⟨(c :: t).toArray⟩ : ByteArray).size : Nat) : Int)) = u.all digB) := by
        intro j u hu hj
        refine ⟨digits_f (c :: t) hs j k (by rw [List.length_cons]; omega) (by rw [List.length_cons]; omega), ?_⟩
        have hr := run_all digB u
        have e : runL digB (c :: t) j = runL digB u 0 := by unfold runL; rw [hu, List.drop_zero]
        have hl : u.length = t.length + 1 - j := by rw [← hu, List.length_drop, List.length_cons]
        rw [e, Bool.eq_iff_iff, beq_iff_eq, ← hr, hz]
        omega
      have ne : ∀ u : List UInt8, (c :: t == ([48] : List UInt8)) = false := fun _ => by rw [beq_eq_false_iff_ne]; exact h48
      by_cases hm : c.toNat = 45
      · rw [if_pos (by omega)]
        unfold whoL absL
        dsimp only
        rw [if_pos hm]
        cases t with
        | nil => rw [if_neg (by rw [hz]; simp)]
        | cons d t' =>
          rw [List.length_cons] at hz
          rw [if_pos (by omega)]
          have hb1 : bt ⟨(c :: d :: t').toArray⟩ 1 = (d.toNat : Int) := bt_list ⟨(c :: d :: t').toArray⟩ 1 (by omega)
          rw [hb1]
          dsimp only
          rw [ne [], Bool.or_false]
          by_cases h0 : d.toNat = 48
          · rw [if_pos (by omega), decide_eq_false (by omega), Bool.and_false]
          · rw [if_neg (by omega), decide_eq_true h0, Bool.and_true]
            obtain ⟨f1, f2⟩ := fin 1 (d :: t') rfl (by omega)
            have f1' : partitaref18_digits.f k ⟨(c :: d :: t').toArray⟩ 1 = _ := f1
            rw [f1']
            simp only [Option.bind_some]
            rw [f2]
      · rw [if_neg (by omega)]
        unfold whoL absL
        dsimp only
        rw [if_neg hm]
        dsimp only
        rw [ne [], Bool.or_false]
        by_cases h0 : c.toNat = 48
        · rw [if_pos (by omega), decide_eq_false (by omega), Bool.and_false]
        · rw [if_neg (by omega), decide_eq_true h0, Bool.and_true]
          obtain ⟨f1, f2⟩ := fin 0 (c :: t) rfl (by omega)
          have f1' : partitaref18_digits.f k ⟨(c :: t).toArray⟩ 0 = _ := f1
          rw [f1']
          simp only [Option.bind_some]
          rw [f2]
theorem ref_right (k : Nat) (kd a : Int) (l : List UInt8) (h : l.length ≤ 1000000000000) (hk : l.length + 30 ≤ k) : partitaref18_Right.f k kd ⟨l.toArray⟩ a = some (rgtL kd l) := by
  unfold partitaref18_Right.f rgtL
  have hz := size_mk l
  by_cases h1 : kd = 1
  · rw [if_pos h1, if_pos h1, word_f l h k (by omega)]; cases l <;> rfl
  · rw [if_neg h1, if_neg h1]
    by_cases h2 : kd = 2
    · rw [if_pos h2, if_pos h2, number_f l h k (by omega)]; rfl
    · rw [if_neg h2, if_neg h2]
      by_cases h3 : kd = 3
      · rw [if_pos h3, if_pos h3, inside_f _ (by rw [hz]; exact h) k (by rw [hz]; exact hk)]; rfl
      · rw [if_neg h3, if_neg h3]
        by_cases h4 : kd = 4
        · rw [if_pos h4, if_pos h4, hz]
          match l, h, hz with
          | [], _, _ => rfl
          | [c], _, hz =>
            rw [if_pos (show (([c].length : Nat) : Int) = 1 from rfl), if_pos (show (0 : Int) < (([c].length : Nat) : Int) by simp)]
            rw [show bt ⟨[c].toArray⟩ 0 = (c.toNat : Int) from bt_list ⟨[c].toArray⟩ 0 (by rw [hz]; exact Nat.succ_pos _), ref_sign]
            rfl
          | c :: d :: t, _, _ =>
            rw [if_neg (by simp only [List.length_cons]; omega)]
        · rw [if_neg h4, if_neg h4]
          by_cases h5 : kd = 5
          · rw [if_pos h5, if_pos h5, toList_data]
          · rw [if_neg h5, if_neg h5]
theorem app_mk (a b : List UInt8) : (⟨a.toArray⟩ : ByteArray) ++ ⟨b.toArray⟩ = ⟨(a ++ b).toArray⟩ := by
  apply ByteArray.ext
  rw [ByteArray.data_append]
  simp
theorem app_s (a : List UInt8) (s : ByteArray) : (⟨a.toArray⟩ : ByteArray) ++ s = ⟨(a ++ s.data.toList).toArray⟩ := app_mk a s.data.toList
theorem quote_l0 (s : ByteArray) (hs : s.size ≤ 1000000000000) : ∀ (d i k : Nat) (acc : List UInt8), s.size - i = d → i ≤ s.size → 2 * d + 1 ≤ k → acc.length ≤ 2 * i + 1 →
    partitaref18_Quote.l0 k s (numsOf acc) (i : Int) = some (⟨(acc ++ (s.data.toList.drop i).flatMap qtB ++ [34]).toArray⟩, 0) := by
  intro d
  induction d with
  | zero =>
    intro i k acc hd hi hk ha
    obtain ⟨k, rfl⟩ : ∃ m, k = m + 1 := ⟨k - 1, by omega⟩
    simp only [partitaref18_Quote.l0]
    rw [if_neg (by omega), if_pos (by rw [nums_len]; omega), List.drop_of_length_le (by rw [size_list]; omega), List.flatMap_nil, List.append_nil]
    have : numsOf acc ++ [34] = numsOf (acc ++ [34]) := by rw [nums_app]; rfl
    rw [this, str_nums]
  | succ d ih =>
    intro i k acc hd hi hk ha
    obtain ⟨k, rfl⟩ : ∃ m, k = m + 2 := ⟨k - 2, by omega⟩
    have h : i < s.size := by omega
    have go : ∀ q : List UInt8, qtB s[i] = q → q.length ≤ 2 → partitaref18_Quote.l0 k s (numsOf acc ++ numsOf q) ((i : Int) + 1) = some (⟨(acc ++ (s.data.toList.drop i).flatMap qtB ++ [34]).toArray⟩, 0) := by
      intro q hq hq2
      have := ih (i + 1) k (acc ++ q) (by omega) (by omega) (by omega) (by rw [List.length_append]; omega)
      rw [← nums_app, drop_cons s i h, List.flatMap_cons, hq]
      rw [List.append_assoc acc q] at this
      exact this
    have hlen := nums_len acc
    simp only [partitaref18_Quote.l0]
    rw [if_pos (show (i : Int) < (s.size : Int) by omega), if_pos (by omega), bt_list s i h]
    by_cases h1 : s[i].toNat = 34
    · have g := go [92, s[i]] (by unfold qtB; rw [if_pos h1, show s[i] = 34 from UInt8.toNat_inj.1 h1]) (by simp)
      rw [if_pos (by omega)]
      simp only [partitaref18_Quote.j1]
      rw [if_pos trivial, if_pos (by omega), if_pos (show (i : Int) < (s.size : Int) by omega), bt_list s i h, w64 (by omega)]
      simp only [Option.bind_some]
      rw [if_pos (by simp only [List.length_cons, List.length_nil]; omega)]
      exact g
    · rw [if_neg (by omega)]
      by_cases h2 : s[i].toNat = 92
      · have g := go [92, s[i]] (by unfold qtB; rw [if_neg h1, if_pos h2, show s[i] = 92 from UInt8.toNat_inj.1 h2]) (by simp)
        rw [show ((s[i].toNat : Int) == 92) = true by simp; omega]
        simp only [partitaref18_Quote.j1]
        rw [if_pos trivial, if_pos (by omega), if_pos (show (i : Int) < (s.size : Int) by omega), bt_list s i h, w64 (by omega)]
        simp only [Option.bind_some]
        rw [if_pos (by simp only [List.length_cons, List.length_nil]; omega)]
        exact g
      · rw [show ((s[i].toNat : Int) == 92) = false by simp; omega]
        simp only [partitaref18_Quote.j1]
        rw [if_neg (by simp), if_pos (by omega), if_pos (show (i : Int) < (s.size : Int) by omega), bt_list s i h, w64 (by omega)]
        by_cases h3 : s[i].toNat = 10
        · have g := go [92, 110] (by unfold qtB; rw [if_neg h1, if_neg h2, if_pos h3]) (by simp)
          rw [if_pos (by omega)]
          simp only [Option.bind_some]
          rw [if_pos (by simp only [List.length_cons, List.length_nil]; omega)]
          exact g
        · rw [if_neg (by omega)]
          by_cases h4 : s[i].toNat = 9
          · have g := go [92, 116] (by unfold qtB; rw [if_neg h1, if_neg h2, if_neg h3, if_pos h4]) (by simp)
            rw [if_pos (by omega)]
            simp only [Option.bind_some]
            rw [if_pos (by simp only [List.length_cons, List.length_nil]; omega)]
            exact g
          · have g := go [s[i]] (by unfold qtB; rw [if_neg h1, if_neg h2, if_neg h3, if_neg h4]) (by simp)
            rw [if_neg (by omega), if_pos (by omega)]
            exact g
theorem ref_quote (s : ByteArray) (hs : s.size ≤ 1000000000000) (k : Nat) (hk : 2 * s.size + 30 ≤ k) : partitaref18_Quote.f k s = some (if insB s = true then (⟨(quoL s.data.toList).toArray⟩, 0) else (⟨#[]⟩, 180)) := by
  unfold partitaref18_Quote.f
  rw [inside_f s hs k (by omega)]
  simp only [Option.bind_some]
  cases insB s with
  | false => rfl
  | true =>
    rw [if_pos rfl, if_pos rfl]
    exact quote_l0 s hs s.size 0 k [34] (by omega) (by omega) (by omega) (by simp)
theorem ref_print_l0 (l : List S35) (hn : l.length ≤ 100000) (hz : ∀ x ∈ l, x.f1.size ≤ 1000000) : ∀ (d i k : Nat) (p : Int) (acc : List UInt8), l.length - i = d → i ≤ l.length → 2 * d + 3000000 ≤ k → acc.length ≤ i * 2000010 → (p = if i = 0 then 5 else (rd_T35 l ((i - 1 : Nat) : Int)).f0) →
    partitaref18_Print.l0 k l ⟨acc.toArray⟩ (i : Int) = if (l.drop i).all rgtX = true then some (⟨(acc ++ txt p (l.drop i)).toArray⟩, 0) else some (⟨#[]⟩, 180) := by
  intro d
  induction d with
  | zero =>
    intro i k p acc hd hi hk ha hp
    obtain ⟨k, rfl⟩ : ∃ m, k = m + 1 := ⟨k - 1, by omega⟩
    simp only [partitaref18_Print.l0]
    rw [if_neg (by omega), List.drop_of_length_le (by omega), if_pos (show ([] : List S35).all rgtX = true from rfl)]
    simp [txt]
  | succ d ih =>
    intro i k p acc hd hi hk ha hp
    obtain ⟨k, rfl⟩ : ∃ m, k = m + 2 := ⟨k - 2, by omega⟩
    have h : i < l.length := by omega
    have hx := rd_getd l i h
    have hzx := hz l[i] (List.getElem_mem h)
    have hnext := ih (i + 1) k (rd_T35 l (i : Int)).f0
    rw [hx] at hnext
    rw [List.drop_eq_getElem_cons h]
    simp only [partitaref18_Print.l0]
    rw [if_pos (show (i : Int) < (l.length : Int) by omega), if_pos (by omega), hx]
    generalize l[i] = x at hx hzx hnext
    have hr : partitaref18_Right.f (k + 1) x.f0 x.f1 x.f2 = some (rgtX x) := ref_right (k + 1) x.f0 x.f2 x.f1.data.toList (by rw [size_list]; omega) (by rw [size_list]; omega)
    rw [hr]
    simp only [Option.bind_some]
    have e : (x :: l.drop (i + 1)).all rgtX = (rgtX x && (l.drop (i + 1)).all rgtX) := List.all_cons
    by_cases hg : rgtX x = true
    · rw [if_pos hg]
      have hs1 := sep_le p x.f0
      have hb1 := bod_le x.f0 x.f1 hzx
      have hz2 := size_mk acc
      have step : ∀ (b : Bool), Aside0 (b = decide (x.f0 ≠ 5 ∧ p ≠ 5)) → partitaref18_Print.j1 (k + 1) l ⟨acc.toArray⟩ (i : Int) b = partitaref18_Print.l0 k l ⟨(acc ++ sepL p x.f0 ++ bodL x.f0 x.f1).toArray⟩ ((i : Int) + 1) := by
        intro b hb
        have hq := ref_quote x.f1 (by omega) k (by omega)
        have hql := quoL_le x.f1.data.toList
        rw [size_list] at hql
        simp only [partitaref18_Print.j1]
        rw [w64 (by omega)]
        unfold sepL bodL
        cases b with
        | true =>
          have h5 := of_decide_eq_true hb.out.symm
          rw [if_pos rfl, if_pos h5, if_pos (by omega), if_pos (by omega), if_pos (show (i : Int) < (l.length : Int) by omega), hx]
          have e1 : (⟨acc.toArray⟩ : ByteArray) ++ ⟨#[32]⟩ = ⟨(acc ++ [32]).toArray⟩ := app_mk acc [32]
          rw [e1]
          have hz3 := size_mk (acc ++ [32])
          rw [List.length_append, List.length_singleton] at hz3
          by_cases h3 : x.f0 = 3
          · rw [if_pos h3, if_pos h3, hq]
            simp only [Option.bind_some]
            cases insB x.f1 with
            | true =>
              rw [if_pos rfl, if_pos rfl]
              simp only []
              rw [if_pos (by rw [size_mk (quoL _)]; omega), app_mk]
            | false =>
              rw [if_neg (show ¬ (false = true) by simp), if_neg (show ¬ (false = true) by simp)]
              simp only []
              rw [if_pos (by rw [show (⟨#[]⟩ : ByteArray).size = 0 from rfl]; omega), show (⟨#[]⟩ : ByteArray) = ⟨([] : List UInt8).toArray⟩ from rfl, app_mk]
          · rw [if_neg h3, if_neg h3, if_pos (by omega), app_s]
        | false =>
          have h5 := of_decide_eq_false hb.out.symm
          rw [if_neg (by simp), if_neg h5, if_pos (by omega), if_pos (show (i : Int) < (l.length : Int) by omega), hx, List.append_nil]
          by_cases h3 : x.f0 = 3
          · rw [if_pos h3, if_pos h3, hq]
            simp only [Option.bind_some]
            cases insB x.f1 with
            | true =>
              rw [if_pos rfl, if_pos rfl]
              simp only []
              rw [if_pos (by rw [size_mk (quoL _)]; omega), app_mk]
            | false =>
              rw [if_neg (show ¬ (false = true) by simp), if_neg (show ¬ (false = true) by simp)]
              simp only []
              rw [if_pos (by rw [show (⟨#[]⟩ : ByteArray).size = 0 from rfl]; omega), show (⟨#[]⟩ : ByteArray) = ⟨([] : List UInt8).toArray⟩ from rfl, app_mk]
          · rw [if_neg h3, if_neg h3, if_pos (by omega), app_s]
      have fin : partitaref18_Print.l0 k l ⟨(acc ++ sepL p x.f0 ++ bodL x.f0 x.f1).toArray⟩ ((i : Int) + 1) = if (x :: l.drop (i + 1)).all rgtX = true then some (⟨(acc ++ txt p (x :: l.drop (i + 1))).toArray⟩, 0) else some (⟨#[]⟩, 180) := by
        have := hnext (acc ++ sepL p x.f0 ++ bodL x.f0 x.f1) (by omega) (by omega) (by omega) (by simp only [List.length_append]; omega) (by rw [if_neg (by omega), show i + 1 - 1 = i from rfl, hx])
        refine this.trans ?_
        simp only [txt, List.append_assoc]
        by_cases hr : (l.drop (i + 1)).all rgtX = true
        · rw [if_pos hr, if_pos (show (x :: l.drop (i + 1)).all rgtX = true by rw [e, hg, hr]; rfl)]
        · rw [if_neg hr, if_neg (show ¬ (x :: l.drop (i + 1)).all rgtX = true by rw [e, hg]; exact hr)]
      rw [← fin]
      by_cases hi0 : i = 0
      · rw [if_pos hi0] at hp
        rw [if_neg (by omega)]
        exact step false ⟨by rw [hp]; simp⟩
      · rw [if_neg hi0] at hp
        rw [if_pos (by omega)]
        by_cases h5 : x.f0 = 5
        · rw [if_pos h5]
          exact step false ⟨by rw [h5]; simp⟩
        · rw [if_neg h5, w64 (by omega), if_pos (by omega), if_pos (by omega), show (i : Int) - 1 = ((i - 1 : Nat) : Int) by omega, ← hp]
          refine step _ ⟨?_⟩
          rw [Bool.eq_iff_iff, bne_iff_ne, decide_eq_true_iff]
          exact ⟨fun h => ⟨h5, h⟩, fun h => h.2⟩
    · rw [if_neg hg, if_neg (show ¬ (x :: l.drop (i + 1)).all rgtX = true by rw [e]; intro h2; rw [Bool.and_eq_true] at h2; exact hg h2.1)]
theorem ref_print (l : List S35) (hn : l.length ≤ 100000) (hz : ∀ x ∈ l, x.f1.size ≤ 1000000) (k : Nat) (hk : 4000000 ≤ k) : partitaref18_Print.f k l = if l.all rgtX = true then some (⟨(txt 5 l).toArray⟩, 0) else some (⟨#[]⟩, 180) :=
  ref_print_l0 l hn hz l.length 0 k 5 [] (by omega) (by omega) (by omega) (by simp) rfl
end Go.Proofs.YtllccnijipgncaaDoor.Q
