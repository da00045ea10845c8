/- Where a beam's line stands, in plain Lean. No conditions. -/
import Derived.Test.YtocjbedacnlaaaaGreatDoorQ7
namespace Go.Proofs.YtocjbedacnlaaaaGreatDoor.Pure
open Go.RowKit Go.Proofs.YtocjbedacnlaaaaGreatDoor.Q Go.Proofs.YtocjbedacnlaaaaGreatDoorW.PrintWords Go.Proofs.YtocjbedacnlaaaaGreatDoorW.PrintMore
set_option linter.unusedVariables false
theorem w64 {n : Int} (h : -9223372036854775808 ≤ n ∧ n ≤ 9223372036854775807) : wrap64 n = n := by unfold wrap64; omega
/-- The first so many values. -/
def rng (n : Nat) (g : Nat → Int) : List Int := (List.range n).map g
@[simp] theorem rng_len (n : Nat) (g : Nat → Int) : (rng n g).length = n := by simp [rng]
theorem rng_rd {n : Nat} {g : Nat → Int} {i : Nat} (h : i < n) : rd (rng n g) (i : Int) = g i := by
  unfold rd rng
  rw [Int.toNat_natCast, List.getD_eq_getElem?_getD, List.getElem?_map, List.getElem?_range h]
  rfl
theorem rng_ext {n : Nat} {g h : Nat → Int} (e : ∀ i, i < n → g i = h i) : rng n g = rng n h := List.map_congr_left fun i hi => e i (List.mem_range.1 hi)
theorem rng_set (n : Nat) (g : Nat → Int) (i : Nat) (v : Int) : (rng n g).set i v = rng n (fun t => if t = i then v else g t) := by
  refine List.ext_getElem? fun j => ?_
  rw [List.getElem?_set]
  unfold rng
  rw [List.length_map, List.length_range, List.getElem?_map, List.getElem?_map]
  by_cases h : i = j
  · subst h
    rw [if_pos rfl]
    by_cases h2 : i < n
    · rw [if_pos h2, List.getElem?_range h2]; simp
    · rw [if_neg h2, List.getElem?_eq_none (by simp; omega)]; rfl
  · rw [if_neg h]
    by_cases h2 : j < n
    · rw [List.getElem?_range h2]; simp [show ¬ j = i from fun e => h e.symm]
    · rw [List.getElem?_eq_none (by simp; omega)]; rfl
theorem rng_snoc (n : Nat) (g : Nat → Int) : rng n g ++ [g n] = rng (n + 1) g := by simp [rng, List.range_succ]
theorem rng_self (l : List Int) : rng l.length (fun i => l.getD i 0) = l := by
  refine List.ext_getElem? fun j => ?_
  unfold rng
  rw [List.getElem?_map]
  by_cases h : j < l.length
  · rw [List.getElem?_range h]; simp [h]
  · rw [List.getElem?_eq_none (by simp; omega), List.getElem?_eq_none (by omega)]; rfl
theorem down_f {a b : Int} (ha : -1000 ≤ a ∧ a ≤ 1000) (hb : 1 ≤ b ∧ b ≤ 1000) : beam_down.f a b = some (a / b) := by
  unfold beam_down.f
  rw [if_neg (by omega)]
  have e := Int.mul_ediv_add_emod a b
  have e1 := Int.emod_nonneg a (show b ≠ 0 by omega)
  have e2 := Int.emod_lt_of_pos a (show 0 < b by omega)
  have hq1 : a / b ≤ 1000 := Int.ediv_le_of_le_mul (by omega) (by omega)
  have hq2 : -1000 ≤ a / b := Int.le_ediv_of_mul_le (by omega) (by omega)
  have ht := Int.tdiv_eq_ediv (a := a) (b := b)
  rw [Int.sign_eq_one_of_pos (by omega)] at ht
  by_cases h0 : a < 0
  · rw [if_pos h0]
    by_cases h1 : b ∣ a
    · rw [if_pos (.inr h1), Int.add_zero] at ht
      have e3 : a / b * b = a := Int.ediv_mul_cancel h1
      rw [ht, w64 (n := a / b) (by omega), e3, w64 (n := a) (by omega), if_pos rfl]
    · rw [if_neg (by rintro (c | c); omega; exact h1 c)] at ht
      rw [ht, w64 (n := a / b + 1) (by omega)]
      have e3 : ¬ wrap64 ((a / b + 1) * b) = a := by
        intro c
        refine h1 ⟨a / b + 1, ?_⟩
        have b1 : (a / b + 1) * b = b * (a / b) + b := by rw [Int.add_mul, Int.one_mul, Int.mul_comm]
        rw [b1, w64 (by omega)] at c
        rw [Int.mul_add, Int.mul_one]
        exact c.symm
      rw [if_neg e3, w64 (by omega)]
      congr 1; omega
  · rw [if_neg h0]
    rw [if_pos (.inl (by omega)), Int.add_zero] at ht
    rw [ht, w64 (by omega)]
/-- How much a line goes up at one of its places. -/
def fl (n : Nat) (d : Int) (i : Nat) : Int := d * (i : Int) / ((n : Int) - 1)
theorem fl_dI {n : Nat} {d : Int} {i : Nat} (hd : -2 ≤ d ∧ d ≤ 2) (hn : n ≤ 64) (hi : i < n) : -2 * ((n : Int) - 1) ≤ d * (i : Int) ∧ d * (i : Int) ≤ 2 * ((n : Int) - 1) := by
  have : d = -2 ∨ d = -1 ∨ d = 0 ∨ d = 1 ∨ d = 2 := by omega
  rcases this with rfl | rfl | rfl | rfl | rfl <;> omega
theorem fl_bd {n : Nat} {d : Int} {i : Nat} (hd : -2 ≤ d ∧ d ≤ 2) (hn : 2 ≤ n ∧ n ≤ 64) (hi : i < n) : -2 ≤ fl n d i ∧ fl n d i ≤ 2 := by
  obtain ⟨h1, h2⟩ := fl_dI hd hn.2 hi
  exact ⟨Int.le_ediv_of_mul_le (by omega) h1, Int.ediv_le_of_le_mul (by omega) h2⟩
theorem fl_down {n : Nat} {d : Int} {i : Nat} (hd : -2 ≤ d ∧ d ≤ 2) (hn : 2 ≤ n ∧ n ≤ 64) (hi : i < n) : beam_down.f (wrap64 (d * (i : Int))) ((n : Int) - 1) = some (fl n d i) := by
  obtain ⟨h1, h2⟩ := fl_dI hd hn.2 hi
  rw [w64 (by omega)]
  exact down_f (by omega) (by omega)
theorem fl_zero (n : Nat) (d : Int) : fl n d 0 = 0 := by unfold fl; simp
theorem fl_last {n : Nat} (hn : 2 ≤ n) (d : Int) : fl n d (n - 1) = d := by
  unfold fl
  rw [show ((n - 1 : Nat) : Int) = (n : Int) - 1 by omega, Int.mul_ediv_cancel _ (by omega)]
theorem fl_up {n : Nat} (hn : 2 ≤ n) {d : Int} (hd : 0 ≤ d) (i : Nat) : fl n d i ≤ fl n d (i + 1) := by
  unfold fl
  refine Int.ediv_le_ediv (by omega) ?_
  rw [Int.natCast_add, Int.mul_add]
  omega
theorem fl_dn {n : Nat} (hn : 2 ≤ n) {d : Int} (hd : d ≤ 0) (i : Nat) : fl n d (i + 1) ≤ fl n d i := by
  unfold fl
  refine Int.ediv_le_ediv (by omega) ?_
  rw [Int.natCast_add, Int.mul_add]
  omega
/-- How much a line goes up in all. -/
def dF (n : Nat) (g : Nat → Int) : Int := mn (mx (g (n - 1) - g 0) (-2)) 2
theorem dF_bd (n : Nat) (g : Nat → Int) : -2 ≤ dF n g ∧ dF n g ≤ 2 := by unfold dF mn mx; constructor <;> (repeat' split) <;> omega
/-- A number that is the greatest of some. -/
def Top (n : Nat) (h : Nat → Int) (b : Int) : Prop := (∀ i, i < n → h i ≤ b) ∧ ∃ i, i < n ∧ h i = b
theorem Top.uniq {n : Nat} {h : Nat → Int} {b c : Int} (x : Top n h b) (y : Top n h c) : b = c := by
  obtain ⟨x1, i, hi, x2⟩ := x
  obtain ⟨y1, j, hj, y2⟩ := y
  have := x1 j hj
  have := y1 i hi
  omega
/-- The greatest of a number and the first so many. -/
def mxU (h : Nat → Int) (b : Int) : Nat → Int
  | 0 => b
  | n + 1 => mx (mxU h b n) (h n)
theorem mx_le (a b : Int) : a ≤ mx a b ∧ b ≤ mx a b ∧ (mx a b = a ∨ mx a b = b) := by unfold mx; split <;> omega
theorem mxU_spec (h : Nat → Int) (b : Int) (n : Nat) : b ≤ mxU h b n ∧ (∀ i, i < n → h i ≤ mxU h b n) ∧ (mxU h b n = b ∨ ∃ i, i < n ∧ h i = mxU h b n) := by
  induction n with
  | zero => exact ⟨Int.le_refl _, fun i hi => by omega, .inl rfl⟩
  | succ n ih =>
    obtain ⟨i1, i2, i3⟩ := ih
    obtain ⟨m1, m2, m3⟩ := mx_le (mxU h b n) (h n)
    show b ≤ mx (mxU h b n) (h n) ∧ (∀ i, i < n + 1 → h i ≤ mx (mxU h b n) (h n)) ∧ (mx (mxU h b n) (h n) = b ∨ ∃ i, i < n + 1 ∧ h i = mx (mxU h b n) (h n))
    refine ⟨by omega, fun i hi => ?_, ?_⟩
    · by_cases e : i = n
      · rw [e]; exact m2
      · have := i2 i (by omega); omega
    · rcases m3 with e | e
      · rcases i3 with i3 | ⟨i, hi, i3⟩
        · exact .inl (e.trans i3)
        · exact .inr ⟨i, by omega, i3.trans e.symm⟩
      · exact .inr ⟨n, by omega, e.symm⟩
theorem mxU_top {h : Nat → Int} {b : Int} {n : Nat} (hn : 1 ≤ n) (hb : ∃ i, i < n ∧ b ≤ h i) : Top n h (mxU h b n) := by
  obtain ⟨s1, s2, s3⟩ := mxU_spec h b n
  refine ⟨s2, ?_⟩
  rcases s3 with e | e
  · obtain ⟨i, hi, hb⟩ := hb
    exact ⟨i, hi, by have := s2 i hi; omega⟩
  · exact e
/-- What a line's place must be at least. -/
def hF (n : Nat) (g : Nat → Int) (i : Nat) : Int := g i + 5 - fl n (dF n g) i
theorem hF_bd {n : Nat} {g : Nat → Int} (hn : 2 ≤ n ∧ n ≤ 64) (hg : ∀ i, i < n → -200 ≤ g i ∧ g i ≤ 200) {i : Nat} (hi : i < n) : -200 ≤ hF n g i ∧ hF n g i ≤ 210 := by
  have := fl_bd (dF_bd n g) hn hi
  have := hg i hi
  unfold hF; omega
theorem over_l2 {n : Nat} {f : Nat → Int} {b : Int} (hn : n ≤ 64) (hf : ∀ i, i < n → -10 ≤ f i ∧ f i ≤ 10) (hb : -300 ≤ b ∧ b ≤ 300) : ∀ (j i k : Nat), i + j = n → beam_over.l2 (k + j + 1) (rng n fun t => if t < i then f t + b else f t) b (n : Int) (i : Int) = some (rng n fun t => f t + b) := by
  intro j
  induction j with
  | zero =>
    intro i k h
    unfold beam_over.l2
    rw [if_neg (by omega)]
    exact congrArg some (rng_ext fun t ht => by rw [if_pos (by omega)])
  | succ j ih =>
    intro i k h
    rw [show k + (j + 1) + 1 = (k + j + 1) + 1 by omega]
    unfold beam_over.l2
    rw [if_pos (by omega), if_pos (by omega), if_pos (by rw [rng_len]; omega), rng_rd (by omega), if_neg (by omega), Int.toNat_natCast, rng_set]
    have := hf i (by omega)
    rw [w64 (by omega), w64 (by omega)]
    have e := ih (i + 1) k (by omega)
    rw [show ((i + 1 : Nat) : Int) = (i : Int) + 1 by omega] at e
    rw [← e]
    congr 1
    refine rng_ext fun t ht => ?_
    by_cases c : t = i
    · rw [if_pos c, if_pos (by omega), c]
    · rw [if_neg c]
      by_cases c2 : t < i
      · rw [if_pos c2, if_pos (by omega)]
      · rw [if_neg c2, if_neg (by omega)]
theorem over_l1 {n : Nat} {f g : Nat → Int} {b : Int} (hn : 2 ≤ n ∧ n ≤ 64) (hf : ∀ i, i < n → -10 ≤ f i ∧ f i ≤ 10) (hg : ∀ i, i < n → -200 ≤ g i ∧ g i ≤ 200) (hb : -300 ≤ b ∧ b ≤ 300) : ∀ (j i k : Nat), i + j = n → beam_over.l1 (k + n + 1 + j + 1) (rng n f) (mxU (fun t => g t + 5 - f t) b i) (rng n g) (n : Int) (i : Int) = some (rng n fun t => f t + mxU (fun t => g t + 5 - f t) b n) := by
  intro j
  induction j with
  | zero =>
    intro i k h
    unfold beam_over.l1
    obtain rfl : i = n := by omega
    rw [if_neg (by omega), rng_len]
    have hB : -300 ≤ mxU (fun t => g t + 5 - f t) b i ∧ mxU (fun t => g t + 5 - f t) b i ≤ 300 := by
      obtain ⟨s1, s2, s3⟩ := mxU_spec (fun t => g t + 5 - f t) b i
      rcases s3 with e | ⟨t, ht, e⟩
      · omega
      · have := hf t ht; have := hg t ht; omega
    have := over_l2 (n := i) (f := f) hn.2 hf hB i 0 k (by omega)
    simp only [Nat.not_lt_zero, if_false] at this
    exact this
  | succ j ih =>
    intro i k h
    rw [show k + n + 1 + (j + 1) + 1 = (k + n + 1 + j + 1) + 1 by omega]
    unfold beam_over.l1
    rw [if_pos (by omega), if_pos (by omega), if_pos (by rw [rng_len]; omega), if_pos (by rw [rng_len]; omega), rng_rd (by omega), rng_rd (by omega)]
    have := hf i (by omega)
    have := hg i (by omega)
    rw [w64 (n := g i + 5) (by omega), w64 (by omega), w64 (by omega)]
    have e := ih (i + 1) k (by omega)
    rw [show ((i + 1 : Nat) : Int) = (i : Int) + 1 by omega] at e
    exact e
theorem over_l0 {n : Nat} {g : Nat → Int} {d : Int} (hd : -2 ≤ d ∧ d ≤ 2) (hn : 2 ≤ n ∧ n ≤ 64) (hg : ∀ i, i < n → -200 ≤ g i ∧ g i ≤ 200) : ∀ (j i k : Nat), i + j = n → beam_over.l0 (k + n + 1 + n + 1 + j + 1) (rng n g) ((n : Int) - 1) d (rng n fun t => if t < i then fl n d t else 0) (n : Int) (i : Int) = some (rng n fun t => fl n d t + mxU (fun t => g t + 5 - fl n d t) (g 0 + 5 - fl n d 0) n) := by
  intro j
  induction j with
  | zero =>
    intro i k h
    unfold beam_over.l0
    obtain rfl : i = n := by omega
    have hF : (rng i fun t => if t < i then fl i d t else 0) = rng i (fl i d) := rng_ext fun t ht => by rw [if_pos ht]
    rw [if_neg (by omega), hF, rng_len, rng_len, if_pos (by omega), if_pos (by omega), show rd (rng i g) 0 = g 0 from rng_rd (i := 0) (by omega), show rd (rng i (fl i d)) 0 = fl i d 0 from rng_rd (i := 0) (by omega)]
    have h1 := hg 0 (by omega)
    have h2 := fl_bd hd hn (i := 0) (by omega)
    rw [w64 (n := g 0 + 5) (by omega), w64 (by omega)]
    exact over_l1 (n := i) (f := fl i d) hn (fun t ht => by have := fl_bd hd hn ht; omega) hg (by omega) i 0 k (by omega)
  | succ j ih =>
    intro i k h
    rw [show k + n + 1 + n + 1 + (j + 1) + 1 = (k + n + 1 + n + 1 + j + 1) + 1 by omega]
    unfold beam_over.l0
    rw [if_pos (by omega), fl_down hd hn (by omega), Option.bind_some, if_pos (by omega), if_pos (by rw [rng_len]; omega), Int.toNat_natCast, rng_set, w64 (by omega)]
    have e := ih (i + 1) k (by omega)
    rw [show ((i + 1 : Nat) : Int) = (i : Int) + 1 by omega] at e
    rw [← e]
    congr 1
    refine rng_ext fun t ht => ?_
    by_cases c : t = i
    · rw [if_pos c, if_pos (by omega), c]
    · rw [if_neg c]
      by_cases c2 : t < i
      · rw [if_pos c2, if_pos (by omega)]
      · rw [if_neg c2, if_neg (by omega)]
/-- A beam's line over numbers. -/
def overL (n : Nat) (g : Nat → Int) (b : Int) : List Int := rng n fun t => fl n (dF n g) t + b
theorem over_f {n : Nat} {g : Nat → Int} (hn : 2 ≤ n ∧ n ≤ 64) (hg : ∀ i, i < n → -200 ≤ g i ∧ g i ≤ 200) : ∃ b, Top n (hF n g) b ∧ ∀ k, beam_over.f (k + 200) (rng n g) = some (overL n g b) := by
  refine ⟨mxU (hF n g) (hF n g 0) n, mxU_top (by omega) ⟨0, by omega, Int.le_refl _⟩, fun k => ?_⟩
  unfold beam_over.f
  rw [rng_len, w64 (by omega), if_pos (by omega), if_pos (by omega), if_pos (by omega), if_pos (by omega), if_pos (by omega), Int.toNat_natCast]
  have e1 : rd (rng n g) ((n : Int) - 1) = g (n - 1) := by rw [show (n : Int) - 1 = ((n - 1 : Nat) : Int) by omega]; exact rng_rd (by omega)
  have e2 : rd (rng n g) 0 = g 0 := rng_rd (i := 0) (by omega)
  rw [e1, e2]
  have h1 := hg 0 (by omega)
  have h2 := hg (n - 1) (by omega)
  rw [w64 (n := g (n - 1) - g 0) (by omega)]
  have e := over_l0 (dF_bd n g) hn hg n 0 (k + 200 - (n + 1 + n + 1 + n + 1)) (by omega)
  rw [show k + 200 - (n + 1 + n + 1 + n + 1) + n + 1 + n + 1 + n + 1 = k + 200 by omega] at e
  simp only [Nat.not_lt_zero, if_false] at e
  rw [show (rng n fun _ => (0 : Int)) = List.replicate n 0 from by unfold rng; rw [List.map_const', List.length_range]] at e
  exact e
theorem turned_l0 {n : Nat} {g : Nat → Int} (hn : n ≤ 64) (hg : ∀ i, i < n → -1000 ≤ g i ∧ g i ≤ 1000) : ∀ (j i k : Nat), i + j = n → beam_turned.l0 (k + j + 1) (rng i fun t => -(g t)) (rng n g) (n : Int) (i : Int) = some (rng n fun t => -(g t)) := by
  intro j
  induction j with
  | zero =>
    intro i k h
    unfold beam_turned.l0
    rw [if_neg (by omega), show i = n by omega]
  | succ j ih =>
    intro i k h
    rw [show k + (j + 1) + 1 = (k + j + 1) + 1 by omega]
    unfold beam_turned.l0
    have := hg i (by omega)
    rw [if_pos (by omega), if_pos (by omega), if_pos (by rw [rng_len]; omega), if_pos (by rw [rng_len]; omega), rng_rd (by omega), w64 (by omega), w64 (by omega)]
    have e := ih (i + 1) k (by omega)
    rw [show ((i + 1 : Nat) : Int) = (i : Int) + 1 by omega] at e
    rw [← e, ← rng_snoc]
theorem turned_f {n : Nat} {g : Nat → Int} (hn : n ≤ 64) (hg : ∀ i, i < n → -1000 ≤ g i ∧ g i ≤ 1000) (k : Nat) : beam_turned.f (k + 200) (rng n g) = some (rng n fun t => -(g t)) := by
  unfold beam_turned.f
  rw [rng_len]
  have := turned_l0 hn hg n 0 (k + 200 - (n + 1)) (by omega)
  rw [show k + 200 - (n + 1) + n + 1 = k + 200 by omega] at this
  exact this
theorem overL_bd {n : Nat} {g : Nat → Int} {b : Int} (hn : 2 ≤ n ∧ n ≤ 64) (hg : ∀ i, i < n → -200 ≤ g i ∧ g i ≤ 200) (hT : Top n (hF n g) b) : -200 ≤ b ∧ b ≤ 210 := by
  obtain ⟨t1, i, hi, rfl⟩ := hT
  exact hF_bd hn hg hi
/-- Are numbers such as lines may have? -/
def okS (n : Nat) (g : Nat → Int) : Prop := 2 ≤ n ∧ n ≤ 64 ∧ ∀ i, i < n → -100 ≤ g i ∧ g i ≤ 100
theorem any_other (n : Nat) (g : Nat → Int) : (rng n g).any otherB = true ↔ ∃ i, i < n ∧ ¬ (-100 ≤ g i ∧ g i ≤ 100) := by
  unfold rng otherB
  rw [List.any_map, List.any_eq_true]
  constructor
  · rintro ⟨i, hi, h⟩
    refine ⟨i, List.mem_range.1 hi, ?_⟩
    simp only [Function.comp, Bool.or_eq_true, decide_eq_true_eq] at h
    omega
  · rintro ⟨i, hi, h⟩
    refine ⟨i, List.mem_range.2 hi, ?_⟩
    simp only [Function.comp, Bool.or_eq_true, decide_eq_true_eq]
    omega
theorem Slope_no {n : Nat} {g : Nat → Int} (h : ¬ okS n g) (k : Nat) (up : Bool) : beam_Slope.f (k + 400) (rng n g) up = some ([], 230) := by
  have hj : beam_Slope.j0 (k + 400) (rng n g) up true = some ([], 230) := by
    rw [show k + 400 = (k + 399) + 1 from rfl]
    unfold beam_Slope.j0
    dsimp only
    rw [if_pos rfl]
    rfl
  unfold beam_Slope.f
  rw [rng_len]
  by_cases c1 : (n : Int) < 2
  · rw [if_pos c1, decide_eq_true c1]; exact hj
  · rw [if_neg c1]
    by_cases c2 : (n : Int) > 64
    · rw [if_pos c2, decide_eq_true c2]; exact hj
    · rw [if_neg c2]
      unfold beam_Slope_1.f
      rw [Option.bind_some]
      have : (rng n g).any otherB = true := by
        rw [any_other]
        refine Classical.byContradiction fun c3 => h ⟨by omega, by omega, fun i hi => Classical.byContradiction fun c4 => c3 ⟨i, hi, c4⟩⟩
      rw [this]
      exact hj
theorem Slope_ok {n : Nat} {g : Nat → Int} (h : okS n g) (k : Nat) (up : Bool) : beam_Slope.f (k + 400) (rng n g) up = beam_Slope.j0 (k + 400) (rng n g) up false := by
  obtain ⟨h1, h2, h3⟩ := h
  unfold beam_Slope.f
  rw [rng_len, if_neg (by omega), if_neg (by omega)]
  unfold beam_Slope_1.f
  rw [Option.bind_some]
  have : (rng n g).any otherB = false := by
    rw [← Bool.not_eq_true, any_other]
    rintro ⟨i, hi, c⟩
    exact c (h3 i hi)
  rw [this]
theorem Slope_up {n : Nat} {g : Nat → Int} (h : okS n g) : ∃ b, Top n (hF n g) b ∧ ∀ k, beam_Slope.f (k + 400) (rng n g) true = some (overL n g b, 0) := by
  obtain ⟨b, hT, hb⟩ := over_f (g := g) ⟨h.1, h.2.1⟩ (fun i hi => by have := h.2.2 i hi; omega)
  refine ⟨b, hT, fun k => ?_⟩
  rw [Slope_ok h, show k + 400 = (k + 199 + 200) + 1 from rfl]
  unfold beam_Slope.j0
  dsimp only
  rw [if_neg (by simp), if_pos rfl, hb, Option.bind_some]
/-- The same numbers with the other sign. -/
def neg (g : Nat → Int) (i : Nat) : Int := -(g i)
theorem okS_neg {n : Nat} {g : Nat → Int} (h : okS n g) : okS n (neg g) := ⟨h.1, h.2.1, fun i hi => by have := h.2.2 i hi; unfold neg; omega⟩
theorem Slope_dn {n : Nat} {g : Nat → Int} (h : okS n g) : ∃ b, Top n (hF n (neg g)) b ∧ ∀ k, beam_Slope.f (k + 400) (rng n g) false = some (rng n fun t => -(fl n (dF n (neg g)) t + b), 0) := by
  have h' := okS_neg h
  obtain ⟨b, hT, hb⟩ := over_f (g := neg g) ⟨h'.1, h'.2.1⟩ (fun i hi => by have := h'.2.2 i hi; omega)
  refine ⟨b, hT, fun k => ?_⟩
  rw [Slope_ok h, show k + 400 = (k + 199 + 200) + 1 from rfl]
  unfold beam_Slope.j0
  dsimp only
  rw [if_neg (by simp), if_neg (by simp), turned_f h.2.1 (fun i hi => by have := h.2.2 i hi; omega), Option.bind_some]
  show (beam_over.f (k + 199 + 200) (rng n (neg g))).bind _ = _
  rw [hb, Option.bind_some]
  unfold overL
  have hbb := overL_bd ⟨h'.1, h'.2.1⟩ (fun i hi => by have := h'.2.2 i hi; omega) hT
  rw [turned_f h.2.1 (fun i hi => by have := fl_bd (dF_bd n (neg g)) ⟨h.1, h.2.1⟩ hi; omega), Option.bind_some]
end Go.Proofs.YtocjbedacnlaaaaGreatDoor.Pure
