/- Where a beam's line stands: as the document says. No conditions. -/
import Derived.Test.YtocjbedacnlaaaaGreatDoorKinds
import Derived.Test.YtocjbedacnlaaaaGreatDoorQ29
import Derived.Test.YtocjbedacnlaaaaGreatDoorSl0
namespace Go.Proofs.YtocjbedacnlaaaaGreatDoor.Pure
open Go.RowKit Go.Proofs.YtocjbedacnlaaaaGreatDoor.Q Go.Proofs.YtocjbedacnlaaaaGreatDoorW.PrintWords Go.Proofs.YtocjbedacnlaaaaGreatDoorW.PrintMore
set_option linter.unusedVariables false
theorem floor_f {a b : Int} (ha : -1000 ≤ a ∧ a ≤ 1000) (hb : 1 ≤ b ∧ b ≤ 1000) : partitaref23_floor.f a b = some (a / b) := by
  unfold partitaref23_floor.f
  have e := Int.mul_ediv_add_emod a b
  have e1 := Int.emod_nonneg a (show b ≠ 0 by omega)
  have e2 := Int.emod_lt_of_pos a (show 0 < b by omega)
  have hq1 : a / b ≤ 1000 := Int.ediv_le_of_le_mul (by omega) (by omega)
  have hq2 : -1000 ≤ a / b := Int.le_ediv_of_mul_le (by omega) (by omega)
  by_cases h0 : a < 0
  · rw [if_pos h0, if_neg (by omega), w64 (n := -a) (by omega), w64 (n := -a + b) (by omega), w64 (n := -a + b - 1) (by omega)]
    have e3 : Int.tdiv (-a + b - 1) b = -(a / b) := by
      rw [Int.tdiv_eq_ediv_of_nonneg (by omega)]
      have : -a + b - 1 = (b - 1 - a % b) + b * (-(a / b)) := by rw [Int.mul_neg]; omega
      rw [this, Int.add_mul_ediv_left _ _ (by omega), Int.ediv_eq_zero_of_lt (by omega) (by omega), Int.zero_add]
    rw [e3, w64 (n := -(a / b)) (by omega), Int.neg_neg, w64 (by omega)]
  · rw [if_neg h0, if_neg (by omega), Int.tdiv_eq_ediv_of_nonneg (by omega), w64 (by omega)]
theorem fl_floor {n : Nat} {d : Int} {i : Nat} (hd : -2 ≤ d ∧ d ≤ 2) (hn : 2 ≤ n ∧ n ≤ 64) (hi : i < n) : partitaref23_floor.f (wrap64 (d * (i : Int))) (wrap64 ((n : Int) - 1)) = some (fl n d i) := by
  obtain ⟨h1, h2⟩ := fl_dI hd hn.2 hi
  rw [w64 (n := d * (i : Int)) (by omega), w64 (n := (n : Int) - 1) (by omega)]
  exact floor_f (by omega) (by omega)
/-- With the other sign, if not up. -/
def sg (up : Bool) (x : Int) : Int := if up = true then x else -x
theorem ref_l2 {n : Nat} {d b : Int} {up : Bool} (hd : -2 ≤ d ∧ d ≤ 2) (hn : 2 ≤ n ∧ n ≤ 64) (hb : -1000 ≤ b ∧ b ≤ 1000) : ∀ (j i k : Nat), i + j = n → partitaref23_Slope.l2 (k + j + 1) up (n : Int) d b (rng i fun t => sg up (fl n d t + b)) (i : Int) = some (rng n fun t => sg up (fl n d t + b), 0) := by
  intro j
  induction j with
  | zero =>
    intro i k h
    unfold partitaref23_Slope.l2
    (try dsimp only)
    rw [if_neg (by omega), show i = n by omega]
  | succ j ih =>
    intro i k h
    rw [show k + (j + 1) + 1 = (k + j + 1) + 1 by omega]
    unfold partitaref23_Slope.l2
    (try dsimp only)
    have hf := fl_bd hd hn (i := i) (by omega)
    have e := ih (i + 1) k (by omega)
    rw [show ((i + 1 : Nat) : Int) = (i : Int) + 1 by omega, ← rng_snoc] at e
    rw [if_pos (by omega), fl_floor hd hn (by omega), Option.bind_some]
    cases up with
    | true =>
      rw [if_pos rfl, if_pos (by rw [rng_len]; omega), w64 (n := b + fl n d i) (by omega), w64 (n := (i : Int) + 1) (by omega), show b + fl n d i = sg true (fl n d i + b) from by unfold sg; rw [if_pos rfl, Int.add_comm]]
      exact e
    | false =>
      rw [if_neg (by simp), if_pos (by rw [rng_len]; omega), w64 (n := b + fl n d i) (by omega), w64 (n := -(b + fl n d i)) (by omega), w64 (n := (i : Int) + 1) (by omega), show -(b + fl n d i) = sg false (fl n d i + b) from by unfold sg; rw [if_neg (by simp), Int.add_comm]]
      exact e
theorem ref_l1 {n : Nat} {d : Int} {g : Nat → Int} {up : Bool} (hd : -2 ≤ d ∧ d ≤ 2) (hn : 2 ≤ n ∧ n ≤ 64) (hg : ∀ i, i < n → -200 ≤ g i ∧ g i ≤ 200) : ∀ (j i k : Nat), i + j = n → partitaref23_Slope.l1 (k + n + 1 + j + 1) up (n : Int) (rng n g) d (mxU (fun t => g t + 5 - fl n d t) (-1000) i) (i : Int) = some (rng n fun t => sg up (fl n d t + mxU (fun t => g t + 5 - fl n d t) (-1000) n), 0) := by
  intro j
  induction j with
  | zero =>
    intro i k h
    unfold partitaref23_Slope.l1
    (try dsimp only)
    obtain rfl : i = n := by omega
    rw [if_neg (by omega)]
    have hB : -1000 ≤ mxU (fun t => g t + 5 - fl i d t) (-1000) i ∧ mxU (fun t => g t + 5 - fl i d t) (-1000) i ≤ 1000 := by
      obtain ⟨s1, s2, s3⟩ := mxU_spec (fun t => g t + 5 - fl i d t) (-1000) i
      rcases s3 with e | ⟨t, ht, e⟩
      · omega
      · have := fl_bd hd hn ht; have := hg t ht; omega
    exact ref_l2 hd hn hB i 0 k (by omega)
  | succ j ih =>
    intro i k h
    rw [show k + n + 1 + (j + 1) + 1 = (k + n + 1 + j + 1) + 1 by omega]
    unfold partitaref23_Slope.l1
    (try dsimp only)
    have hf := fl_bd hd hn (i := i) (by omega)
    have := hg i (by omega)
    rw [if_pos (by omega), if_pos (by omega), if_pos (by rw [rng_len]; omega), fl_floor hd hn (by omega), Option.bind_some, rng_rd (by omega), w64 (n := g i + 5) (by omega), w64 (n := g i + 5 - fl n d i) (by omega), w64 (n := (i : Int) + 1) (by omega)]
    have e := ih (i + 1) k (by omega)
    rw [show ((i + 1 : Nat) : Int) = (i : Int) + 1 by omega] at e
    exact e
theorem ref_l0 {n : Nat} {g : Nat → Int} {up : Bool} (hn : 2 ≤ n ∧ n ≤ 64) (hg : ∀ i, i < n → -100 ≤ g i ∧ g i ≤ 100) : ∀ (j i k : Nat), i + j = n → partitaref23_Slope.l0 (k + n + 1 + n + 1 + 2 * j + 1) (rng n g) up (n : Int) (rng i fun t => sg up (g t)) (i : Int) = some (rng n fun t => sg up (fl n (dF n fun t => sg up (g t)) t + mxU (hF n fun t => sg up (g t)) (-1000) n), 0) := by
  intro j
  induction j with
  | zero =>
    intro i k h
    obtain rfl : i = n := by omega
    rw [show k + i + 1 + i + 1 + 2 * 0 + 1 = (k + i + 1 + i + 1) + 1 by omega]
    unfold partitaref23_Slope.l0
    (try dsimp only)
    have b1 : ∀ t, t < i → -200 ≤ sg up (g t) ∧ sg up (g t) ≤ 200 := fun t ht => by have := hg t ht; unfold sg; split <;> omega
    have e1 : rd (rng i fun t => sg up (g t)) ((i : Int) - 1) = sg up (g (i - 1)) := by rw [show (i : Int) - 1 = ((i - 1 : Nat) : Int) by omega]; exact rng_rd (g := fun t => sg up (g t)) (by omega)
    have e2 : rd (rng i fun t => sg up (g t)) 0 = sg up (g 0) := rng_rd (g := fun t => sg up (g t)) (i := 0) (by omega)
    have h1 := b1 0 (by omega)
    have h2 := b1 (i - 1) (by omega)
    rw [if_neg (by omega), w64 (n := (i : Int) - 1) (by omega), rng_len, if_pos (by omega), if_pos (by omega), if_pos (by omega), e1, e2, w64 (n := sg up (g (i - 1)) - sg up (g 0)) (by omega)]
    rw [show mn (mx (sg up (g (i - 1)) - sg up (g 0)) (-2)) 2 = dF i fun t => sg up (g t) from rfl]
    have key := ref_l1 (up := up) (n := i) (d := dF i fun t => sg up (g t)) (g := fun t => sg up (g t)) (dF_bd i _) hn b1 i 0 k (by omega)
    rw [show (fun t => (fun t => sg up (g t)) t + 5 - fl i (dF i fun t => sg up (g t)) t) = hF i fun t => sg up (g t) from rfl] at key
    exact key
  | succ j ih =>
    intro i k h
    rw [show k + n + 1 + n + 1 + 2 * (j + 1) + 1 = (k + n + 1 + n + 1 + 2 * j + 1) + 1 + 1 by omega]
    unfold partitaref23_Slope.l0
    (try dsimp only)
    have := hg i (by omega)
    have hd : decide (rd (rng n g) (i : Int) > 100) = false := by rw [rng_rd (by omega)]; exact decide_eq_false (by omega)
    rw [if_pos (by omega), if_pos (by omega), if_pos (by rw [rng_len]; omega), if_neg (by rw [rng_rd (by omega)]; omega), hd]
    unfold partitaref23_Slope.j2
    (try dsimp only)
    have e := ih (i + 1) k (by omega)
    rw [show ((i + 1 : Nat) : Int) = (i : Int) + 1 by omega, ← rng_snoc] at e
    cases up with
    | true =>
      rw [if_neg (by simp), if_pos rfl, if_pos (by omega), if_pos (by rw [rng_len]; omega), if_pos (by rw [rng_len]; omega), rng_rd (by omega), w64 (n := (i : Int) + 1) (by omega)]
      exact e
    | false =>
      rw [if_neg (by simp), if_neg (by simp), if_pos (by omega), if_pos (by rw [rng_len]; omega), if_pos (by rw [rng_len]; omega), rng_rd (by omega), w64 (n := -(g i)) (by omega), w64 (n := (i : Int) + 1) (by omega)]
      exact e
theorem ref_bad {n : Nat} {g : Nat → Int} {up : Bool} (hn : 2 ≤ n ∧ n ≤ 64) : ∀ (j i k : Nat) (x7 : List Int), i + j = n → x7.length = i → (∀ t, t < i → -100 ≤ g t ∧ g t ≤ 100) → (∃ t, t < n ∧ ¬ (-100 ≤ g t ∧ g t ≤ 100)) → partitaref23_Slope.l0 (k + 2 * j + 2) (rng n g) up (n : Int) x7 (i : Int) = some ([], 230) := by
  intro j
  induction j with
  | zero =>
    intro i k x7 h _ hg hx
    obtain ⟨t, ht, hx⟩ := hx
    exact absurd (hg t (by omega)) hx
  | succ j ih =>
    intro i k x7 h hl hg hx
    rw [show k + 2 * (j + 1) + 2 = (k + 2 * j + 2) + 1 + 1 by omega]
    have hj : ∀ b, b = true → partitaref23_Slope.j2 ((k + 2 * j + 2) + 1) (rng n g) up (n : Int) x7 (i : Int) b = some ([], 230) := by
      rintro b rfl
      unfold partitaref23_Slope.j2
      (try dsimp only)
      rw [if_pos rfl]
    unfold partitaref23_Slope.l0
    (try dsimp only)
    rw [if_pos (by omega), if_pos (by omega), if_pos (by rw [rng_len]; omega), rng_rd (by omega)]
    by_cases c1 : g i < -100
    · rw [if_pos c1]; exact hj _ rfl
    · rw [if_neg c1]
      by_cases c2 : g i > 100
      · exact hj _ (decide_eq_true c2)
      · rw [decide_eq_false c2]
        unfold partitaref23_Slope.j2
        (try dsimp only)
        have hg' : ∀ t, t < i + 1 → -100 ≤ g t ∧ g t ≤ 100 := by
          intro t ht
          by_cases c : t = i
          · rw [c]; omega
          · exact hg t (by omega)
        have e1 := ih (i + 1) k (x7 ++ [rd (rng n g) (i : Int)]) (by omega) (by simp [hl]) hg' hx
        have e2 := ih (i + 1) k (x7 ++ [wrap64 (-(rd (rng n g) (i : Int)))]) (by omega) (by simp [hl]) hg' hx
        rw [show ((i + 1 : Nat) : Int) = (i : Int) + 1 by omega] at e1 e2
        cases up with
        | true =>
          rw [if_neg (by simp), if_pos rfl, if_pos (by omega), if_pos (by rw [rng_len]; omega), if_pos (by omega), w64 (n := (i : Int) + 1) (by omega)]
          exact e1
        | false =>
          rw [if_neg (by simp), if_neg (by simp), if_pos (by omega), if_pos (by rw [rng_len]; omega), if_pos (by omega), w64 (n := (i : Int) + 1) (by omega)]
          exact e2
theorem ref_no {n : Nat} {g : Nat → Int} (h : ¬ okS n g) (k : Nat) (up : Bool) : partitaref23_Slope.f (k + 400) (rng n g) up = some ([], 230) := by
  have hj : partitaref23_Slope.j0 (k + 400) (rng n g) up (n : Int) true = some ([], 230) := by
    rw [show k + 400 = (k + 399) + 1 from rfl]
    unfold partitaref23_Slope.j0
    (try dsimp only)
    rw [if_pos rfl]
  unfold partitaref23_Slope.f
  rw [rng_len]
  by_cases c1 : (n : Int) < 2
  · rw [if_pos c1]; exact hj
  · rw [if_neg c1]
    by_cases c2 : (n : Int) > 64
    · rw [decide_eq_true c2]; exact hj
    · rw [decide_eq_false c2, show k + 400 = (k + 399) + 1 from rfl]
      unfold partitaref23_Slope.j0
      (try dsimp only)
      rw [if_neg (by simp)]
      have hx : ∃ t, t < n ∧ ¬ (-100 ≤ g t ∧ g t ≤ 100) := Classical.byContradiction fun c3 => h ⟨by omega, by omega, fun i hi => Classical.byContradiction fun c4 => c3 ⟨i, hi, c4⟩⟩
      have := ref_bad (up := up) (n := n) (g := g) (by omega) n 0 (k + 399 - (2 * n + 2)) [] (by omega) rfl (fun t ht => absurd ht (by omega)) hx
      rw [show k + 399 - (2 * n + 2) + 2 * n + 2 = k + 399 by omega] at this
      exact this
theorem ref_ok {n : Nat} {g : Nat → Int} (h : okS n g) (k : Nat) (up : Bool) : partitaref23_Slope.f (k + 400) (rng n g) up = some (rng n fun t => sg up (fl n (dF n fun t => sg up (g t)) t + mxU (hF n fun t => sg up (g t)) (-1000) n), 0) := by
  obtain ⟨h1, h2, h3⟩ := h
  unfold partitaref23_Slope.f
  rw [rng_len, if_neg (by omega), decide_eq_false (by omega), show k + 400 = (k + 399) + 1 from rfl]
  unfold partitaref23_Slope.j0
  (try dsimp only)
  rw [if_neg (by simp)]
  have := ref_l0 (up := up) (n := n) (g := g) (by omega) h3 n 0 (k + 399 - (n + 1 + n + 1 + 2 * n + 1)) (by omega)
  rw [show k + 399 - (n + 1 + n + 1 + 2 * n + 1) + n + 1 + n + 1 + 2 * n + 1 = k + 399 by omega] at this
  exact this
theorem Ints_l0 {n : Nat} {g : Nat → Int} (hn : n ≤ 64) : ∀ (j i k : Nat), i + j = n → partitaref23_Ints.l0 (k + j + 1) (rng n g) (rng n g) (i : Int) = some true := by
  intro j
  induction j with
  | zero =>
    intro i k h
    unfold partitaref23_Ints.l0
    rw [if_neg (by rw [rng_len]; omega)]
  | succ j ih =>
    intro i k h
    rw [show k + (j + 1) + 1 = (k + j + 1) + 1 by omega]
    unfold partitaref23_Ints.l0
    have e := ih (i + 1) k (by omega)
    rw [show ((i + 1 : Nat) : Int) = (i : Int) + 1 by omega] at e
    rw [rng_len, w64 (n := (i : Int) + 1) (by omega)]
    simp only [show (i : Int) < (n : Int) by omega, show (0 : Int) ≤ (i : Int) by omega, if_true]
    exact e
theorem Ints_same {n : Nat} {g : Nat → Int} (hn : n ≤ 64) (k : Nat) : partitaref23_Ints.f (k + 400) (rng n g) (rng n g) = some true := by
  unfold partitaref23_Ints.f
  rw [if_pos rfl]
  have := Ints_l0 (g := g) hn n 0 (k + 400 - (n + 1)) (by omega)
  rw [show k + 400 - (n + 1) + n + 1 = k + 400 by omega] at this
  exact this
theorem same_up {n : Nat} {g : Nat → Int} (h : okS n g) (k : Nat) (up : Bool) : beam_Slope.f (k + 400) (rng n g) up = some (rng n fun t => sg up (fl n (dF n fun t => sg up (g t)) t + mxU (hF n fun t => sg up (g t)) (-1000) n), 0) := by
  have tp : Top n (hF n fun t => sg up (g t)) (mxU (hF n fun t => sg up (g t)) (-1000) n) := by
    refine mxU_top (by have := h.1; omega) ⟨0, by have := h.1; omega, ?_⟩
    have := hF_bd (n := n) (g := fun t => sg up (g t)) ⟨h.1, h.2.1⟩ (fun t ht => by have := h.2.2 t ht; (try dsimp only); unfold sg; split <;> omega) (i := 0) (by have := h.1; omega)
    omega
  cases up with
  | true =>
    obtain ⟨b, hT, hb⟩ := Slope_up h
    rw [hb k, hT.uniq tp]
    rfl
  | false =>
    obtain ⟨b, hT, hb⟩ := Slope_dn h
    rw [hb k, hT.uniq tp]
    rfl
theorem BeamSlopes : ∀ (l0 : List Int) (a1 : Bool), (l0.length * 8 ≤ 140737488351232 ∧ ∀ y ∈ l0, (Lit.int .i64 y).wf = true) → ∃ k, partitalaw23_BeamSlopes.f k l0 a1 = some true := by
  intro l up _
  refine ⟨400, ?_⟩
  rw [← rng_self l]
  generalize l.length = n
  generalize (fun i => l.getD i 0) = g
  unfold partitalaw23_BeamSlopes.f partitalaw23_shown.f
  rw [Option.bind_some]
  by_cases h : okS n g
  · have a := same_up h 0 up
    have b := ref_ok h 0 up
    have c := Ints_same (g := fun t => sg up (fl n (dF n fun t => sg up (g t)) t + mxU (hF n fun t => sg up (g t)) (-1000) n)) h.2.1 0
    rw [Nat.zero_add] at a b c
    rw [a, Option.bind_some, b, Option.bind_some, if_pos rfl, c, Option.bind_some, if_pos rfl]
    rfl
  · have a := Slope_no h 0 up
    have b := ref_no h 0 up
    rw [Nat.zero_add] at a b
    rw [a, Option.bind_some, b, Option.bind_some, if_pos rfl]
    rfl
end Go.Proofs.YtocjbedacnlaaaaGreatDoor.Pure
