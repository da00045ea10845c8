/- Plain facts on ratios and meters (c05's, turned by gengp0.py). No conditions. -/
import Derived.Test.YtocjbedacnlaaaaGreatDoorQ13
import Derived.Test.YtocjbedacnlaaaaGreatDoorKinds
namespace Go.Proofs.YtocjbedacnlaaaaGreatDoor.Q
open Go.RowKit Go.Proofs.YtocjbedacnlaaaaGreatDoorW.PrintWords Go.Proofs.YtocjbedacnlaaaaGreatDoorW.PrintMore
set_option linter.unusedVariables false
set_option linter.unusedSimpArgs false
def i64 (n : Int) : Prop := -9223372036854775808 ≤ n ∧ n ≤ 9223372036854775807
theorem i64_of {n : Int} (h : (Lit.int .i64 n).wf = true) : i64 n := by
  simp only [Lit.wf, IntKind.min, IntKind.max, IntKind.signed, IntKind.bits, Bool.and_eq_true, decide_eq_true_eq] at h
  unfold i64; simp at h; omega
theorem wrap64_id {n : Int} (h : i64 n) : wrap64 n = n := by unfold i64 at h; unfold wrap64; omega
theorem wrapU (n : Int) : IntKind.u64.wrap n = n % 18446744073709551616 := IntKind.wrap_u64 n
theorem absU_nat {n : Int} (h : i64 n) : absU n = n.natAbs := by
  unfold absU; unfold i64 at h
  rw [wrapU, wrapU]
  split <;> omega
theorem mx_le {a b c : Int} : mx a b ≤ c ↔ a ≤ c ∧ b ≤ c := by unfold mx; split <;> omega
/-- A ratio that is right. -/
def Rt (n d : Int) : Prop := 1 ≤ d ∧ d ≤ 1000000000 ∧ -1000000000 ≤ n ∧ n ≤ 1000000000 ∧ Int.gcd n d = 1
theorem rightB_iff {n d : Int} (hn : i64 n) (hd : i64 d) : rightB n d = true ↔ Rt n d := by
  unfold rightB Rt
  rw [absU_nat hn, absU_nat hd]
  simp only [Bool.and_eq_true, decide_eq_true_eq, beq_iff_eq, mx_le, Int.gcd_natCast_natCast]
  have : Int.gcd n d = Nat.gcd n.natAbs d.natAbs := rfl
  omega
/-- A product of two numbers that are not too great. -/
theorem mul_bd {a b : Int} {A B : Nat} (ha : a.natAbs ≤ A) (hb : b.natAbs ≤ B) : (a * b).natAbs ≤ A * B := by
  rw [Int.natAbs_mul]; exact Nat.mul_le_mul ha hb
theorem Rt.num {n d : Int} (h : Rt n d) : n.natAbs ≤ 1000000000 := by obtain ⟨_, _, h1, h2, _⟩ := h; omega
theorem Rt.den {n d : Int} (h : Rt n d) : d.natAbs ≤ 1000000000 := by obtain ⟨h1, h2, _⟩ := h; omega
theorem Rt.pos {n d : Int} (h : Rt n d) : 0 < d := by have := h.1; omega
theorem i64_small {n : Int} (h : n.natAbs ≤ 9000000000000000000) : i64 n := by unfold i64; omega
theorem cmpD_eq {a b c d : Int} (h1 : Rt a b) (h2 : Rt c d) : cmpD a b c d = a * d - c * b := by
  have x1 := mul_bd h1.num h2.den
  have x2 := mul_bd h2.num h1.den
  unfold cmpD
  rw [wrap64_id (n := a * d) (i64_small (by omega)), wrap64_id (n := c * b) (i64_small (by omega)), wrap64_id (i64_small (by omega))]
theorem cmpI_rt {a b c d : Int} (ha : i64 a) (hb : i64 b) (hc : i64 c) (hd : i64 d) (h1 : Rt a b) (h2 : Rt c d) : cmpI a b c d = if a * d < c * b then -1 else if c * b < a * d then 1 else 0 := by
  unfold cmpI
  rw [cmpD_eq h1 h2, (rightB_iff ha hb).2 h1, (rightB_iff hc hd).2 h2, Bool.true_and, Bool.true_and]
  by_cases e : a * d - c * b = 0
  · rw [e, if_neg (by decide), if_neg (by omega), if_neg (by omega)]
  · have e1 : (!(a * d - c * b == 0)) = true := by simp [e]
    rw [if_pos e1]
    split <;> split <;> (try split) <;> omega
/-- The one is below the other, by the numbers alone. -/
def Lt (a b c d : Int) : Prop := a * d < c * b
theorem lt_trans_ {a b c d e f : Int} (hb : 0 < b) (hd : 0 < d) (hf : 0 < f) (h1 : a * d ≤ c * b) (h2 : c * f < e * d) : a * f < e * b := by
  have x1 : a * d * f ≤ c * b * f := Int.mul_le_mul_of_nonneg_right h1 (by omega)
  have x2 : c * f * b < e * d * b := Int.mul_lt_mul_of_pos_right h2 hb
  have x3 : a * f * d < e * b * d := by
    have e1 : a * f * d = a * d * f := by rw [Int.mul_right_comm]
    have e2 : e * b * d = e * d * b := by rw [Int.mul_right_comm]
    have e3 : c * b * f = c * f * b := by rw [Int.mul_right_comm]
    omega
  exact Int.lt_of_mul_lt_mul_right x3 (by omega)
theorem le_trans_ {a b c d e f : Int} (hb : 0 < b) (hd : 0 < d) (hf : 0 < f) (h1 : a * d ≤ c * b) (h2 : c * f ≤ e * d) : a * f ≤ e * b := by
  have x1 : a * d * f ≤ c * b * f := Int.mul_le_mul_of_nonneg_right h1 (by omega)
  have x2 : c * f * b ≤ e * d * b := Int.mul_le_mul_of_nonneg_right h2 (by omega)
  have x3 : a * f * d ≤ e * b * d := by
    have e1 : a * f * d = a * d * f := by rw [Int.mul_right_comm]
    have e2 : e * b * d = e * d * b := by rw [Int.mul_right_comm]
    have e3 : c * b * f = c * f * b := by rw [Int.mul_right_comm]
    omega
  exact Int.le_of_mul_le_mul_right x3 hd
theorem tdiv_nat (a b : Nat) : Int.tdiv (a : Int) (b : Int) = ((a / b : Nat) : Int) := by rw [Int.ofNat_tdiv]
/-- A number by another one, as it is: the terms, and what is wrong (11: by 0; 10: too great). -/
def ofQ (a b : Int) : Int × Int × Int :=
  let g := Nat.gcd a.natAbs b.natAbs
  if b = 0 then (0, 0, 11) else if 1000000000 < a.natAbs / g ∨ 1000000000 < b.natAbs / g then (0, 0, 10)
  else (if (a < 0) ≠ (b < 0) then -((a.natAbs / g : Nat) : Int) else ((a.natAbs / g : Nat) : Int), ((b.natAbs / g : Nat) : Int), 0)
/-- What is told is right, and it is that number by the other one. -/
theorem ofQ_rt {a b n d : Int} (h : ofQ a b = (n, d, 0)) : Rt n d ∧ n * b = a * d ∧ b ≠ 0 := by
  unfold ofQ at h
  by_cases h0 : b = 0
  · simp [h0] at h
  · simp only [if_neg h0] at h
    have hg : 0 < Nat.gcd a.natAbs b.natAbs := Nat.gcd_pos_of_pos_right _ (by omega)
    have hc := Nat.coprime_div_gcd_div_gcd hg
    have d1 := Nat.div_mul_cancel (Nat.gcd_dvd_left a.natAbs b.natAbs)
    have d2 := Nat.div_mul_cancel (Nat.gcd_dvd_right a.natAbs b.natAbs)
    generalize Nat.gcd a.natAbs b.natAbs = g at *
    generalize a.natAbs / g = x at *
    generalize b.natAbs / g = y at *
    by_cases h1 : 1000000000 < x ∨ 1000000000 < y
    · rw [if_pos h1] at h; simp at h
    · rw [if_neg h1] at h
      simp only [Prod.mk.injEq, and_true] at h
      obtain ⟨hn, rfl⟩ := h
      have hy : y ≠ 0 := by rintro rfl; simp at d2; omega
      have hgc : Int.gcd n y = 1 := by
        have e : n.natAbs = x := by split at hn <;> omega
        show Nat.gcd n.natAbs (y : Int).natAbs = 1
        rw [e]; exact hc
      refine ⟨⟨by omega, by omega, ?_, ?_, hgc⟩, ?_, h0⟩
      · split at hn <;> omega
      · split at hn <;> omega
      · have ea : a = if a < 0 then -((x * g : Nat) : Int) else ((x * g : Nat) : Int) := by split <;> omega
        have eb : b = if b < 0 then -((y * g : Nat) : Int) else ((y * g : Nat) : Int) := by split <;> omega
        have key : (x : Int) * ((y * g : Nat) : Int) = ((x * g : Nat) : Int) * (y : Int) := by
          rw [Int.natCast_mul, Int.natCast_mul, ← Int.mul_assoc, Int.mul_right_comm]
        by_cases h3 : a < 0 <;> by_cases h4 : b < 0
        · rw [if_pos h3] at ea; rw [if_pos h4] at eb; rw [if_neg (by simp [h3, h4])] at hn
          rw [ea, eb, ← hn, Int.mul_neg, Int.neg_mul, key]
        · rw [if_pos h3] at ea; rw [if_neg h4] at eb; rw [if_pos (by simp [h3, h4])] at hn
          rw [ea, eb, ← hn, Int.neg_mul, Int.neg_mul, key]
        · rw [if_neg h3] at ea; rw [if_pos h4] at eb; rw [if_pos (by simp [h3, h4])] at hn
          rw [ea, eb, ← hn, Int.mul_neg, Int.neg_mul, Int.neg_neg, key]
        · rw [if_neg h3] at ea; rw [if_neg h4] at eb; rw [if_neg (by simp [h3, h4])] at hn
          rw [ea, eb, ← hn, key]
theorem ratioOf {a b : Int} (ha : i64 a) (hb : i64 b) : ratio_Of.f a b = some (ofQ a b) := by
  unfold ratio_Of.f ofQ
  by_cases h0 : b = 0
  · rw [if_pos h0]; simp only [h0, if_true]
  · rw [if_neg h0]
    simp only [if_neg h0, ratio_abs.f, absU_nat ha, absU_nat hb, Option.bind_some, ratio_common.f]
    rw [if_pos ⟨by omega, by omega⟩]
    simp only [Option.bind_some, Int.gcd_natCast_natCast]
    have hg : 0 < Nat.gcd a.natAbs b.natAbs := Nat.gcd_pos_of_pos_right _ (by omega)
    generalize hG : Nat.gcd a.natAbs b.natAbs = g at hg ⊢
    rw [if_neg (by omega), tdiv_nat, tdiv_nat, wrapU, wrapU]
    unfold i64 at ha hb
    have hx : a.natAbs / g ≤ a.natAbs := Nat.div_le_self _ _
    have hy : b.natAbs / g ≤ b.natAbs := Nat.div_le_self _ _
    generalize a.natAbs / g = x at hx ⊢
    generalize b.natAbs / g = y at hy ⊢
    rw [show (x : Int) % 18446744073709551616 = x by omega, show (y : Int) % 18446744073709551616 = y by omega]
    by_cases h1 : 1000000000 < x ∨ 1000000000 < y
    · rw [if_pos h1, if_pos (by unfold mx; split <;> omega)]
    · rw [if_neg h1, if_neg (by unfold mx; split <;> omega)]
      rw [wrap64_id (n := (x : Int)) (by unfold i64; omega), wrap64_id (n := (y : Int)) (by unfold i64; omega), wrap64_id (n := -(x : Int)) (by unfold i64; omega)]
      by_cases h3 : a < 0 <;> by_cases h4 : b < 0 <;> simp [h3, h4]
/-- The ratio n/d is x N-ths. -/
def At (N x n d : Int) : Prop := Rt n d ∧ n * N = x * d
theorem ofQ_ok {a b : Int} (hb : b ≠ 0) (ha : a.natAbs ≤ 1000000000) (hb2 : b.natAbs ≤ 1000000000) : ∃ n d, ofQ a b = (n, d, 0) ∧ Rt n d ∧ n * b = a * d := by
  have h : (ofQ a b).2.2 = 0 := by
    unfold ofQ
    have x1 : a.natAbs / Nat.gcd a.natAbs b.natAbs ≤ a.natAbs := Nat.div_le_self _ _
    have x2 : b.natAbs / Nat.gcd a.natAbs b.natAbs ≤ b.natAbs := Nat.div_le_self _ _
    simp only [if_neg hb]
    rw [if_neg (by omega)]
  rcases ho : ofQ a b with ⟨n, d, e⟩
  rw [ho] at h
  simp only at h
  subst h
  obtain ⟨h1, h2, _⟩ := ofQ_rt ho
  exact ⟨n, d, rfl, h1, h2⟩
theorem dvd_of_gcd {k n m : Int} (h : k ∣ n * m) (g : Int.gcd n k = 1) : k ∣ m := by
  have := Int.dvd_gcd_mul_iff_dvd_mul.2 h
  rw [Int.gcd_comm, g] at this
  simpa using this
theorem At.den {N x n d : Int} (hN : 0 < N) (h : At N x n d) : 1 ≤ d ∧ d ≤ N ∧ d ∣ N := by
  obtain ⟨⟨p1, _, _, _, g⟩, e⟩ := h
  have : d ∣ n * N := ⟨x, by rw [e, Int.mul_comm]⟩
  have h2 := dvd_of_gcd this g
  exact ⟨p1, Int.le_of_dvd hN h2, h2⟩
theorem At.num {N x n d : Int} (hN : 0 < N) (h : At N x n d) : n.natAbs ≤ x.natAbs := by
  obtain ⟨d1, d2, _⟩ := h.den hN
  have e := congrArg Int.natAbs h.2
  rw [Int.natAbs_mul, Int.natAbs_mul] at e
  have h1 : x.natAbs * d.natAbs ≤ x.natAbs * N.natAbs := Nat.mul_le_mul_left _ (by omega)
  rw [← e] at h1
  exact Nat.le_of_mul_le_mul_right h1 (by omega)
theorem At.sgn {N x n d : Int} (hN : 0 < N) (h : At N x n d) : (n ≤ 0 ↔ x ≤ 0) ∧ (n < 0 ↔ x < 0) ∧ (n = 0 ↔ x = 0) := by
  obtain ⟨d1, _, _⟩ := h.den hN
  have e := h.2
  have key : ∀ a b : Int, 0 < b → (0 < a → 0 < a * b) ∧ (a < 0 → a * b < 0) := fun a b hb => ⟨fun ha => Int.mul_pos ha hb, fun ha => Int.mul_neg_of_neg_of_pos ha hb⟩
  obtain ⟨k1, k2⟩ := key n N hN
  obtain ⟨k3, k4⟩ := key x d (by omega)
  have z1 : n = 0 → n * N = 0 := fun h => by rw [h, Int.zero_mul]
  have z2 : x = 0 → x * d = 0 := fun h => by rw [h, Int.zero_mul]
  rcases Int.lt_trichotomy n 0 with h1 | h1 | h1 <;> rcases Int.lt_trichotomy x 0 with h2 | h2 | h2 <;> omega
theorem at_new {N x : Int} (hN : 0 < N) (hN2 : N ≤ 1000) (h1 : x.natAbs ≤ 1000000) : ∃ n d, ofQ x N = (n, d, 0) ∧ At N x n d := by
  obtain ⟨n, d, h, hr, he⟩ := ofQ_ok (a := x) (b := N) (by omega) (by omega) (by omega)
  exact ⟨n, d, h, hr, he⟩
theorem at_lt {N x y a b c d : Int} (hN : 0 < N) (h1 : At N x a b) (h2 : At N y c d) : a * d < c * b ↔ x < y := by
  have e1 := h1.2
  have e2 := h2.2
  have p1 := h1.1.pos
  have p2 := h2.1.pos
  have hp : 0 < b * d := Int.mul_pos p1 p2
  have k1 : (a * d) * N = x * (b * d) := by rw [Int.mul_right_comm, e1, Int.mul_assoc]
  have k2 : (c * b) * N = y * (b * d) := by rw [Int.mul_right_comm, e2, Int.mul_assoc, Int.mul_comm d b]
  constructor
  · intro h
    have : (a * d) * N < (c * b) * N := Int.mul_lt_mul_of_pos_right h hN
    rw [k1, k2] at this
    exact Int.lt_of_mul_lt_mul_right this (by omega)
  · intro h
    have := Int.mul_lt_mul_of_pos_right h hp
    rw [← k1, ← k2] at this
    exact Int.lt_of_mul_lt_mul_right this (by omega)
theorem Rt.w {n d : Int} (h : Rt n d) : i64 n ∧ i64 d := by obtain ⟨_, _, _, _, _⟩ := h; unfold i64; omega
theorem natAbs_bd {a b : Int} {A B : Nat} (ha : a.natAbs ≤ A) (hb : b.natAbs ≤ B) : (a * b).natAbs ≤ A * B := mul_bd ha hb
theorem rd_drop {l : List Int} {i : Nat} (h : i < l.length) : l.drop i = rd l i :: l.drop (i + 1) := by
  rw [List.drop_eq_getElem_cons h]
  congr 1
  simp [rd, List.getD, h]
/-- Do groups fill what is left? e: there are none at all. -/
def okG (e : Bool) : Int → List Int → Bool
  | left, [] => left == 0 || e
  | left, g :: G => decide (1 ≤ g) && decide (g ≤ left) && okG e (left - g) G
theorem right_l0 {l : List Int} (hl : l.length ≤ 17592186044416) (n d : Int) : ∀ (m k i : Nat) (left : Int), i + m = l.length → m + 1 ≤ k → 0 ≤ left → left ≤ 32 →
    meter_Right.l0 k left l (l.length : Int) i n d l = some (okG (l.length == 0) left (l.drop i)) := by
  intro m
  induction m with
  | zero =>
    intro k i left hi hk h0 h1
    obtain ⟨k, rfl⟩ : ∃ j, k = j + 1 := ⟨k - 1, by omega⟩
    rw [meter_Right.l0, if_neg (by omega), List.drop_of_length_le (by omega), okG]
    by_cases h : left = 0
    · rw [if_pos h, h]; rfl
    · rw [if_neg h]
      congr 1
      rw [show (left == 0) = false by simpa using h, Bool.false_or]
      rw [Bool.eq_iff_iff]; simp
  | succ m ih =>
    intro k i left hi hk h0 h1
    obtain ⟨k, rfl⟩ : ∃ j, k = j + 1 := ⟨k - 1, by omega⟩
    rw [meter_Right.l0, if_pos (by omega), if_pos (by omega), if_pos (by omega), rd_drop (by omega), okG]
    by_cases c1 : rd l i < 1
    · rw [if_pos c1, decide_eq_false (by omega)]; simp
    · rw [if_neg c1, decide_eq_true (by omega), Bool.true_and]
      by_cases c2 : rd l i > left
      · rw [if_pos c2, decide_eq_false (by omega)]; simp
      · rw [if_neg c2, decide_eq_true (by omega), Bool.true_and, wrap64_id (n := left - rd l i) (by unfold i64; omega), wrap64_id (n := (i : Int) + 1) (by unfold i64; omega)]
        exact ih k (i + 1) (left - rd l i) (by omega) (by omega) (by omega) (by omega)
def dOK (d : Int) : Bool := !(Go.bits .and .i64 d (wrap64 (d - 1)) != 0)
def rightM (n d : Int) (l : List Int) : Bool := decide (1 ≤ n) && (decide (n ≤ 32) && (decide (1 ≤ d) && (decide (d ≤ 64) && (dOK d && okG (l.length == 0) n l))))
theorem right_f {n d : Int} {l : List Int} (hl : l.length ≤ 17592186044416) {k : Nat} (hk : l.length + 3 ≤ k) : meter_Right.f k n d l = some (rightM n d l) := by
  obtain ⟨k, rfl⟩ : ∃ j, k = j + 1 := ⟨k - 1, by omega⟩
  unfold meter_Right.f rightM
  by_cases c1 : n < 1
  · rw [if_pos c1, decide_eq_false (by omega)]; simp [meter_Right.j0]
  rw [if_neg c1, decide_eq_true (show 1 ≤ n by omega), Bool.true_and]
  by_cases c2 : n > 32
  · rw [if_pos c2, decide_eq_false (by omega)]; simp [meter_Right.j0]
  rw [if_neg c2, decide_eq_true (show n ≤ 32 by omega), Bool.true_and]
  by_cases c3 : d < 1
  · rw [if_pos c3, decide_eq_false (by omega)]; simp [meter_Right.j0]
  rw [if_neg c3, decide_eq_true (show 1 ≤ d by omega), Bool.true_and]
  by_cases c4 : d > 64
  · rw [if_pos c4, decide_eq_false (by omega)]; simp [meter_Right.j0]
  rw [if_neg c4, decide_eq_true (show d ≤ 64 by omega), Bool.true_and]
  unfold dOK
  cases hb : (Go.bits .and .i64 d (wrap64 (d - 1)) != 0) with
  | true => simp [meter_Right.j0]
  | false =>
    rw [meter_Right.j0, if_neg (by decide), Bool.not_false, Bool.true_and]
    have := right_l0 hl n d l.length k 0 n (by omega) (by omega) (by omega) (by omega)
    simpa using this
/-- A meter that is right. -/
structure GM (n d : Int) (l : List Int) : Prop where
  n1 : 1 ≤ n
  n2 : n ≤ 32
  d1 : d = 1 ∨ d = 2 ∨ d = 4 ∨ d = 8 ∨ d = 16 ∨ d = 32 ∨ d = 64
  pos : ∀ g ∈ l, 1 ≤ g ∧ g ≤ 32
  sum : l = [] ∨ l.sum = n
theorem GM.d64 {n d : Int} {l : List Int} (h : GM n d l) : 1 ≤ d ∧ d ≤ 64 := by rcases h.d1 with h | h | h | h | h | h | h <;> omega
theorem len_le_sum : ∀ {l : List Int}, (∀ g ∈ l, 1 ≤ g ∧ g ≤ 32) → (l.length : Int) ≤ l.sum
  | [], _ => by simp
  | g :: l, h => by
    have h1 := h g (by simp)
    have h2 := len_le_sum (l := l) (fun x hx => h x (by simp [hx]))
    rw [List.sum_cons, List.length_cons]; omega
theorem GM.len {n d : Int} {l : List Int} (h : GM n d l) : l.length ≤ 32 := by
  rcases h.sum with rfl | hs
  · simp
  · have := len_le_sum h.pos; have := h.n2; omega
theorem sum_rep (m : Nat) (v : Int) : (List.replicate m v).sum = m * v := by
  induction m with
  | zero => simp
  | succ m ih => rw [List.replicate_succ, List.sum_cons, ih, Int.natCast_succ, Int.add_mul]; omega
theorem grp_ok {n d : Int} {l : List Int} (h : GM n d l) : (grp n d l).sum = n ∧ (∀ g ∈ grp n d l, 1 ≤ g ∧ g ≤ 32) ∧ 1 ≤ (grp n d l).length ∧ (grp n d l).length ≤ 32 := by
  have key : (grp n d l).sum = n ∧ (∀ g ∈ grp n d l, 1 ≤ g ∧ g ≤ 32) := by
    have h1 := h.n1
    have h2 := h.n2
    unfold grp
    split
    · rename_i h0
      rcases h.sum with rfl | hs
      · simp at h0
      · exact ⟨hs, h.pos⟩
    · split
      · rename_i hc
        refine ⟨by rw [sum_rep]; omega, fun g hg => by rw [(List.mem_replicate.1 hg).2]; omega⟩
      · refine ⟨by rw [sum_rep]; omega, fun g hg => by rw [(List.mem_replicate.1 hg).2]; omega⟩
  have hl := len_le_sum key.2
  have h1 := h.n1
  have h2 := h.n2
  refine ⟨key.1, key.2, ?_, by omega⟩
  cases hg : grp n d l with
  | nil => rw [hg] at key; simp at key; omega
  | cons a t => simp
theorem GM.good {n d : Int} {l : List Int} (h : GM n d l) : goodM n d l = true := by
  obtain ⟨g1, g2, g3, g4⟩ := grp_ok h
  have hd := h.d64
  unfold goodM
  rw [decide_eq_true h.n1, decide_eq_true h.n2, decide_eq_true hd.1, decide_eq_true hd.2, decide_eq_true g4]
  simp only [Bool.true_and, List.all_eq_true, Bool.and_eq_true, decide_eq_true_eq]
  exact g2
theorem okG_iff {e : Bool} : ∀ {l : List Int} {left : Int}, 0 ≤ left → left ≤ 32 → okG e left l = true → (∀ g ∈ l, 1 ≤ g ∧ g ≤ 32) ∧ (l.sum = left ∨ e = true)
  | [], left, _, _, h => by
    rw [okG, Bool.or_eq_true, beq_iff_eq] at h
    exact ⟨by simp, by rcases h with h | h <;> simp [h]⟩
  | g :: l, left, h0, h1, h => by
    rw [okG, Bool.and_eq_true, Bool.and_eq_true, decide_eq_true_iff, decide_eq_true_iff] at h
    obtain ⟨h2, h3⟩ := okG_iff (l := l) (left := left - g) (by omega) (by omega) h.2
    refine ⟨fun x hx => ?_, ?_⟩
    · rcases List.mem_cons.1 hx with rfl | hx
      · omega
      · exact h2 x hx
    · rcases h3 with h3 | h3
      · left; rw [List.sum_cons]; omega
      · exact .inr h3
theorem dOK_iff {d : Int} (h1 : 1 ≤ d) (h2 : d ≤ 64) (h : dOK d = true) : d = 1 ∨ d = 2 ∨ d = 4 ∨ d = 8 ∨ d = 16 ∨ d = 32 ∨ d = 64 := by
  have key : ∀ m : Fin 65, 1 ≤ m.val → dOK (m.val : Int) = true → m.val = 1 ∨ m.val = 2 ∨ m.val = 4 ∨ m.val = 8 ∨ m.val = 16 ∨ m.val = 32 ∨ m.val = 64 := by decide +kernel
  have := key ⟨d.toNat, by omega⟩ (by show 1 ≤ d.toNat; omega) (by show dOK ((d.toNat : Nat) : Int) = true; rw [Int.toNat_of_nonneg (by omega)]; exact h)
  simp only at this
  omega
theorem gm_of {n d : Int} {l : List Int} (h : rightM n d l = true) : GM n d l := by
  unfold rightM at h
  simp only [Bool.and_eq_true, decide_eq_true_iff] at h
  obtain ⟨a1, a2, a3, a4, a5, a6⟩ := h
  obtain ⟨b1, b2⟩ := okG_iff (by omega) a2 a6
  refine ⟨a1, a2, dOK_iff a3 a4 a5, b1, ?_⟩
  rcases b2 with b2 | b2
  · exact .inr b2
  · left; simpa using b2
def W2 (p : Int × Int) : Prop := i64 p.1 ∧ i64 p.2
theorem i64_wrap (n : Int) : i64 (wrap64 n) := by unfold i64 wrap64; omega
theorem ofQ_w (a b : Int) : i64 (ofQ a b).1 ∧ i64 (ofQ a b).2.1 := by
  unfold ofQ
  dsimp only
  generalize a.natAbs / Nat.gcd a.natAbs b.natAbs = x
  generalize b.natAbs / Nat.gcd a.natAbs b.natAbs = y
  split
  · exact ⟨by unfold i64; simp, by unfold i64; simp⟩
  · split
    · exact ⟨by unfold i64; simp, by unfold i64; simp⟩
    · rename_i h
      refine ⟨?_, by unfold i64; simp only; omega⟩
      simp only
      split <;> (unfold i64; omega)
theorem W2.zero : W2 (0, 0) := ⟨by unfold i64; simp, by unfold i64; simp⟩
theorem add_all (a b c d : Int) : ∃ r, ratio_Add.f a b c d = some r ∧ i64 r.1 ∧ i64 r.2.1 := by
  unfold ratio_Add.f doI
  split
  · rw [ratioOf (i64_wrap _) (i64_wrap _)]; exact ⟨_, rfl, ofQ_w _ _⟩
  · exact ⟨_, rfl, by unfold i64; simp, by unfold i64; simp⟩
def lenP (n d : Int) (l : List Int) : Int × Int × Int := if rightM n d l = true then ofQ n d else (0, 0, 50)
theorem len_f {n d : Int} {l : List Int} (hn : i64 n) (hd : i64 d) (hl : l.length ≤ 17592186044416) {k : Nat} (hk : l.length + 20 ≤ k) : meter_Length.f k n d l = some (lenP n d l) := by
  unfold meter_Length.f lenP
  rw [right_f hl (by omega), Option.bind_some]
  by_cases h : rightM n d l = true
  · rw [if_pos h, if_pos h, ratioOf hn hd]; rfl
  · rw [if_neg h, if_neg h]
def beatP (n d : Int) (l : List Int) : List S72 × Int := if rightM n d l = true then (rowsP (beatsP n d l), 0) else ([], 50)
theorem beat_f {n d : Int} {l : List Int} (hl : l.length ≤ 17592186044416) {k : Nat} (hk : l.length + 20 ≤ k) : meter_Beats.f k n d l = some (beatP n d l) := by
  unfold meter_Beats.f beatP
  rw [right_f hl (by omega), Option.bind_some]
  by_cases h : rightM n d l = true
  · rw [if_pos h, if_pos h, if_pos (gm_of h).good]
  · rw [if_neg h, if_neg h]
theorem beatsP_len {n d : Int} {l : List Int} (h : GM n d l) : (beatsP n d l).length ≤ 32 := by
  obtain ⟨_, _, _, g4⟩ := grp_ok h
  unfold beatsP; rw [uptoB_len]; exact g4
theorem ptB_at {d a : Int} (hd : 1 ≤ d) (hd2 : d ≤ 64) (ha : a.natAbs ≤ 1000000) : At d a (ptB d a).1 (ptB d a).2 := by
  obtain ⟨x, y, h, hat⟩ := at_new (N := d) (x := a) (by omega) (by omega) ha
  unfold ptB
  rw [ratioOf (by unfold i64; omega) (by unfold i64; omega), h]
  exact hat
theorem sums_bd {G : List Int} (h : ∀ g ∈ G, 1 ≤ g ∧ g ≤ 32) (j : Nat) : 0 ≤ (G.take j).sum ∧ (G.take j).sum ≤ G.sum := by
  have h1 := len_le_sum (l := G.take j) (fun g hg => h g (List.mem_of_mem_take hg))
  have h2 := len_le_sum (l := G.drop j) (fun g hg => h g (List.mem_of_mem_drop hg))
  have h3 : (G.take j).sum + (G.drop j).sum = G.sum := by rw [← List.sum_append, List.take_append_drop]
  omega
theorem beats_get {n d : Int} {G : List Int} (h : GM n d G) {i : Nat} (hi : i < (grp n d G).length) : ∃ q, (beatsP n d G)[i]? = some q ∧ At d ((grp n d G).take i).sum q.1 q.2 := by
  obtain ⟨g1, g2, g3, g4⟩ := grp_ok h
  have hd := h.d64
  have hn := h.n2
  have := sums_bd g2 i
  have hb : ((List.take i (grp n d G)).sum).natAbs ≤ 1000000 := by omega
  refine ⟨ptB d ((grp n d G).take i).sum, ?_, ptB_at hd.1 hd.2 hb⟩
  unfold beatsP uptoB
  rw [List.getElem?_map, List.getElem?_range hi]; rfl
end Go.Proofs.YtocjbedacnlaaaaGreatDoor.Q
